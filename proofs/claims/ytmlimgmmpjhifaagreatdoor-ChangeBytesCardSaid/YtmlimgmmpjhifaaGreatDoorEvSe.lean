/- A verified evaluator of Go code, and its soundness (EvSe). Conditions: those of each theorem. -/
import Derived.Test.YtmlimgmmpjhifaaGreatDoorEvSd
import Derived.Orders
import Derived.Handed
import Derived.RowKit3
import Derived.OpenShut
import Derived.ChangeSame
import Derived.FnData
import Derived.Carry
import Derived.Stop.Joined
set_option linter.all false
namespace Go.AEv
section
variable [Unk]
theorem ZC (m i:Nat):bit m i=m.testBit i:=by
 unfold bit
 show Nat.beq ((m >>> i) &&& 1) 1=_
 rw [zG,Nat.testBit,Nat.and_comm]
 rcases Nat.mod_two_eq_zero_or_one (m >>> i) with h | h
 ·rw [Nat.one_and_eq_mod_two,h];rfl
 ·rw [Nat.one_and_eq_mod_two,h];rfl
theorem QU (m i j:Nat):bit (Yx m i) j=(bit m j||decide (i=j)):=by
 rw [ZC,ZC]
 show (m ||| (1 <<< i)).testBit j=_
 rw [Nat.testBit_or,Nat.one_shiftLeft,Nat.testBit_two_pow]
theorem bT (m n j:Nat):bit (Nat.lor m n) j=(bit m j||bit n j):=by
 rw [ZC,ZC,ZC]
 exact Nat.testBit_or _ _ _
theorem l9 (i j:Nat):bit (Nat.shiftLeft 1 i) j=decide (i=j):=by
 rw [ZC]
 show (1 <<< i).testBit j=_
 rw [Nat.one_shiftLeft,Nat.testBit_two_pow]
theorem yb (j:Nat):bit 0 j=false:=by rw [ZC];exact Nat.zero_testBit j
theorem aL {a b:Nat} (h:Yc a b=true) {j:Nat} (hj:bit a j=true):bit b j=true:=by
 unfold Yc at h
 rw [zG,beq_iff_eq]at h
 rw [ZC]at *
 have h:a &&& b=a:=h
 rw [← h,Nat.testBit_and,Bool.and_eq_true]at hj
 exact hj.2
theorem vl {a b:Nat} (h:∀ j,bit a j=true→bit b j=true):Yc a b=true:=by
 unfold Yc
 rw [zG,beq_iff_eq]
 show a &&& b=a
 apply Nat.eq_of_testBit_eq
 intro j
 rw [Nat.testBit_and]
 have:=h j
 rw [ZC,ZC]at this
 cases ha:a.testBit j with
 | false=>simp
 | true=>simp [this ha]
theorem tn {D n:Nat} (h:Nat.beq (Nat.succ D) (Nat.shiftLeft 1 n)=true) {i:Nat} (hi:i<n):bit D i=true:=by
 rw [zG,beq_iff_eq]at h
 have h:D+1=1 <<< n:=h
 rw [Nat.one_shiftLeft]at h
 rw [ZC,show D=2 ^ n-1 by omega,Nat.testBit_two_pow_sub_one]
 simpa using hi
theorem Vh (es:List Edge) (j:Nat):bit (kF es) j=true↔∃ e∈es,Region.binds .any e=true∧e.on=j:=by
 induction es with
 | nil=>rw [show kF []=0 from rfl,yb];simp
 | cons e es ih=>
  have h:kF (e::es)=ifB (Wd e) (Nat.lor (Nat.shiftLeft 1 e.on) (kF es)) (kF es):=rfl
  rw [h,zu]
  by_cases hb:Wd e=true
  ·rw [if_pos hb,bT,l9]
   simp only [Bool.or_eq_true,decide_eq_true_eq,ih,List.mem_cons]
   constructor
   ·rintro (h | ⟨e',h1,h2,h3⟩)
    ·exact ⟨e,.inl rfl,hb,h⟩
    ·exact ⟨e',.inr h1,h2,h3⟩
   ·rintro ⟨e',h1 | h1,h2,h3⟩
    ·subst h1;exact .inl h3
    ·exact .inr ⟨e',h1,h2,h3⟩
  ·rw [if_neg hb,ih]
   simp only [List.mem_cons]
   constructor
   ·rintro ⟨e',h1,h2⟩;exact ⟨e',.inr h1,h2⟩
   ·rintro ⟨e',h1 | h1,h2,h3⟩
    ·subst h1;exact absurd h2 hb
    ·exact ⟨e',h1,h2,h3⟩
def Yz (ops:List Oper) (D:Nat→Prop):Prop:=∀ (i:Nat) (o:Oper),ops[i]? = some o→D i→∀ e∈o.after.toList,Region.binds .any e=true→D e.on
theorem vw (acc:List Nat) (es:List Edge) (j:Nat) (h:bit (yE acc es) j=true):∃ e∈es,Region.binds .any e=true∧(e.on=j∨∃ a,acc[e.on]? = some a∧bit a j=true):=by
 induction es with
 | nil=>rw [show yE acc []=0 from rfl,yb]at h;cases h
 | cons e es ih=>
  have e0:yE acc (e::es)=ifB (Wd e) (Nat.lor (Nat.lor (Nat.shiftLeft 1 e.on) (zt (ZY e.on acc) 0 fun a=>a)) (yE acc es)) (yE acc es):=rfl
  rw [e0,zu]at h
  by_cases hb:Wd e=true
  ·rw [if_pos hb,bT,bT,l9,Bool.or_eq_true,Bool.or_eq_true,decide_eq_true_eq]at h
   rcases h with (h | h) | h
   ·exact ⟨e,by simp,hb,.inl h⟩
   ·rw [kb]at h
    cases ha:acc[e.on]? with
    | none=>rw [ha,zm,yb]at h;cases h
    | some a=>rw [ha,zg]at h;exact ⟨e,by simp,hb,.inr ⟨a,ha,h⟩⟩
   ·obtain ⟨e',h1,h2⟩:=ih h
    exact ⟨e',by simp [h1],h2⟩
  ·rw [if_neg hb]at h
   obtain ⟨e',h1,h2⟩:=ih h
   exact ⟨e',by simp [h1],h2⟩
def cE (ops:List Oper) (acc:List Nat):Prop:=
 ∀ (i a j:Nat),acc[i]? = some a→bit a j=true→∃ o:Oper,ops[i]? = some o∧∀ D,Yz ops D→(∀ e∈o.after.toList,Region.binds .any e=true→D e.on)→D j
theorem vu (ops:List Oper):∀ (l:List Oper) (acc:List Nat),ops.drop acc.length=l→cE ops acc →
  cE ops (Qq l acc)∧(Qq l acc).length=acc.length+l.length:=by
 intro l
 induction l with
 | nil=>intro acc _ h;exact ⟨h,rfl⟩
 | cons o l ih=>
  intro acc hd h
  have e0:Qq (o::l) acc=Qq l (jv acc [yE acc o.after.toList]):=rfl
  rw [e0,qy]
  have ho:ops[acc.length]? = some o:=by
   have:(ops.drop acc.length)[0]? = some o:=by rw [hd];rfl
   rwa [List.getElem?_drop,Nat.add_zero]at this
  have hd':ops.drop (acc++[yE acc o.after.toList]).length=l:=by
   rw [List.length_append,← List.drop_drop,hd];rfl
  have hnext:cE ops (acc++[yE acc o.after.toList]):=by
   intro i a j hi hj
   by_cases hlt:i<acc.length
   ·rw [List.getElem?_append_left hlt]at hi
    exact h i a j hi hj
   ·rw [List.getElem?_append_right (by omega)]at hi
    have hi0:i-acc.length=0:=by
     rcases Nat.eq_zero_or_pos (i-acc.length) with h | h
     ·exact h
     ·rw [List.getElem?_eq_none (by simp;omega)]at hi;cases hi
    rw [hi0]at hi
    simp only [List.getElem?_cons_zero,Option.some.injEq]at hi
    subst hi
    have:i=acc.length:=by omega
    subst this
    refine ⟨o,ho,fun D hD hpre=>?_⟩
    obtain ⟨e,he,hb,hc⟩:=vw _ _ _ hj
    have hDe:=hpre e he hb
    rcases hc with rfl | ⟨a',ha',hbit⟩
    ·exact hDe
    ·obtain ⟨o',ho',hall⟩:=h e.on a' j ha' hbit
     exact hall D hD (hD e.on o' ho' hDe)
  obtain ⟨g1,g2⟩:=ih (acc++[yE acc o.after.toList]) hd' hnext
  exact ⟨g1,by rw [g2];simp only [List.length_append,List.length_cons,List.length_nil];omega⟩
theorem JZ (ops:List Oper):cE ops (Qq ops [])∧(Qq ops []).length=ops.length:=by
 obtain ⟨h1,h2⟩:=vu ops ops [] rfl (by intro i a j h;cases h)
 exact ⟨h1,by simpa using h2⟩
theorem fZ (E:Env) (ops:List Oper) (as:List Nat):∀ (l:List Oper) (i:Nat) (bs:List Nat),l.length=bs.length→∀ k:Nat,(Ke E ops as l i bs)[k]? =
  (l[k]?).bind fun o=>(bs[k]?).map fun a=>⟨i+k,kF o.after.toList,a,kindOf E ops as (i+k) o,o⟩:=by
 intro l
 induction l with
 | nil=>intro i bs _ k;simp [Ke]
 | cons o l ih=>
  intro i bs hl k
  cases bs with
  | nil=>simp at hl
  | cons a bs=>
   have e0:Ke E ops as (o::l) i (a::bs)=⟨i,kF o.after.toList,a,kindOf E ops as i o,o⟩::Ke E ops as l (Nat.succ i) bs:=rfl
   rw [e0]
   cases k with
   | zero=>simp
   | succ k=>
    rw [List.getElem?_cons_succ,ih (Nat.succ i) bs (by simpa using hl) k,List.getElem?_cons_succ,List.getElem?_cons_succ]
    rw [show Nat.succ i+k=i+(k+1) by omega]
theorem dD (E:Env) (ops:List Oper) (k:Nat):(qn E ops)[k]? = (ops[k]?).bind fun o=>((Qq ops [])[k]?).map fun a=>⟨k,kF o.after.toList,a,kindOf E ops (Qq ops []) k o,o⟩:=by
 have:=fZ E ops (Qq ops []) ops 0 (Qq ops []) (JZ ops).2.symm k
 rw [Nat.zero_add]at this
 exact this
theorem q7 {E:Env}{ops:List Oper}{m:OpM} (h:m∈qn E ops):ops[m.i]? = some m.o∧(Qq ops [])[m.i]? = some m.anc∧m.pre=kF m.o.after.toList∧m.kind=kindOf E ops (Qq ops []) m.i m.o:=by
 obtain ⟨k,hk⟩:=List.mem_iff_getElem?.1 h
 rw [dD]at hk
 cases ho:ops[k]? with
 | none=>rw [ho]at hk;cases hk
 | some o=>
  rw [ho,Option.bind_some]at hk
  cases ha:(Qq ops [])[k]? with
  | none=>rw [ha]at hk;cases hk
  | some a=>
   rw [ha,Option.map_some]at hk
   cases hk
   exact ⟨ho,ha,rfl,rfl⟩
theorem dC (E:Env) {ops:List Oper}{i:Nat}{o:Oper} (h:ops[i]? = some o):∃ m∈qn E ops,m.i=i∧m.o=o:=by
 have hi:=(List.getElem?_eq_some_iff.1 h).1
 obtain ⟨a,ha⟩:∃ a,(Qq ops [])[i]? = some a:=⟨_,List.getElem?_eq_getElem (by rw [(JZ ops).2];exact hi)⟩
 refine ⟨⟨i,kF o.after.toList,a,kindOf E ops (Qq ops []) i o,o⟩,List.mem_iff_getElem?.2 ⟨i,?_⟩,rfl,rfl⟩
 rw [dD,h,ha];rfl
theorem uq (t:Nat) (l:List Operand):nu t l=true↔Operand.tmp t∈l:=by
 induction l with
 | nil=>simp [nu]
 | cons x l ih=>
  have e0:nu t (x::l)=zt (Uv x) (nu t l) fun u=>ifB (Nat.beq u t) true (nu t l):=rfl
  rw [e0]
  cases x with
  | tmp u=>
   simp only [Uv,zg,zu,zG,beq_iff_eq,List.mem_cons,Operand.tmp.injEq]
   by_cases hu:u=t
   ·subst hu;simp
   ·rw [if_neg hu,ih]
    constructor
    ·exact .inr
    ·rintro (h | h)
     ·exact absurd h.symm hu
     ·exact h
  | const c=>simp [Uv,ih]
  | global g=>simp [Uv,ih]
  | func f=>simp [Uv,ih]
theorem nE {ops:List Oper}{w t:Nat}:∀ (l:List Oper) (as:List Nat),late ops w t l as=false→l.length=as.length→∀ (k:Nat) (o:Oper) (a:Nat),l[k]? = some o→as[k]? = some a→looks ops o t=true→bit a w=true:=by
 intro l
 induction l with
 | nil=>intro as _ _ k o a h;simp at h
 | cons x l ih=>
  intro as h hl k o a ho ha hlk
  cases as with
  | nil=>simp at hl
  | cons b bs=>
   have e0:late ops w t (x::l) (b::bs)=ifB (looks ops x t) (ifB (bit b w) (late ops w t l bs) true) (late ops w t l bs):=rfl
   rw [e0]at h
   cases k with
   | zero=>
    simp only [List.getElem?_cons_zero,Option.some.injEq]at ho ha
    subst ho ha
    rw [hlk,qI,zu]at h
    split at h
    ·assumption
    ·cases h
   | succ k=>
    refine ih bs ?_ (by simpa using hl) k o a (by simpa using ho) (by simpa using ha) hlk
    rw [zu]at h
    split at h
    ·rw [zu]at h
     split at h
     ·exact h
     ·cases h
    ·exact h
theorem V8 {t:Nat}:∀ {l:List Oper},V9 t l=true→∀ o∈l,o.dst≠some t:=by
 intro l
 induction l with
 | nil=>intro _ o h;cases h
 | cons x l ih=>
  intro h o ho
  have e0:V9 t (x::l)=zt x.dst (V9 t l) fun d=>ifB (Nat.beq d t) false (V9 t l):=rfl
  rw [e0]at h
  cases hx:x.dst with
  | none=>
   rw [hx,zm]at h
   rcases List.mem_cons.1 ho with rfl | ho
   ·rw [hx];simp
   ·exact ih h o ho
  | some d=>
   rw [hx,zg,zu,zG]at h
   split at h
   ·cases h
   ·rename_i hd
    rcases List.mem_cons.1 ho with rfl | ho
    ·rw [hx];simpa using hd
    ·exact ih h o ho
theorem Wz:∀ {l:List Oper},yo l=true→∀ (i j:Nat) (oi oj:Oper) (d:Tmp),l[i]? = some oi→l[j]? = some oj→oi.dst=some d→oj.dst=some d→i=j:=by
 intro l
 induction l with
 | nil=>intro _ i j oi oj d h;simp at h
 | cons x l ih=>
  intro h i j oi oj d hi hj di dj
  have e0:yo (x::l)=zt x.dst (yo l) fun d=>ifB (V9 d l) (yo l) false:=rfl
  rw [e0]at h
  have hl:yo l=true:=by
   cases hx:x.dst with
   | none=>rw [hx,zm]at h;exact h
   | some d=>rw [hx,zg]at h;rw [zu]at h;split at h;exact h;cases h
  have hn:∀ d,x.dst=some d→V9 d l=true:=by
   intro d hx
   rw [hx,zg,zu]at h
   split at h
   ·assumption
   ·cases h
  cases i with
  | zero=>
   simp only [List.getElem?_cons_zero,Option.some.injEq]at hi
   subst hi
   cases j with
   | zero=>rfl
   | succ j=>exact absurd dj (V8 (hn d di) oj (List.mem_of_getElem? (by simpa using hj)))
  | succ i=>
   cases j with
   | zero=>
    simp only [List.getElem?_cons_zero,Option.some.injEq]at hj
    subst hj
    exact absurd di (V8 (hn d dj) oi (List.mem_of_getElem? (by simpa using hi)))
   | succ j=>rw [ih hl i j oi oj d (by simpa using hi) (by simpa using hj) di dj]
end
section
variable [Unk]
section
variable {E:Env}
theorem YU {o : Op} {rec : Rec} {T : Tr zd} {H H' : Heap} {v : zd} (hk : j7 E o = 0) (h : aop o E rec T H = some (v, H')) : H' = H ∧ ∀ c, o = .call c → ∃ b, c.callee = .builtin b := by
  have nc : ∀ {p : Prop}, p → (∀ c, o ≠ .call c) → p ∧ ∀ c, o = .call c → ∃ b, c.callee = .builtin b := fun hp hn => ⟨hp, fun c hc => absurd hc (hn c)⟩
  cases o <;> first | (exfalso; revert hk; simp [j7]; done) | skip
  case pick c a b =>
    refine nc ?_ (by intro c; simp)
    replace h := zf h
    obtain ⟨_, _, h⟩ := h
    replace h := zf h
    obtain ⟨q, _, h⟩ := h
    cases q
    · exact (qD h).2
    · exact (qD h).2
  case convert s d x =>
    refine nc ?_ (by intro c; simp)
    have hk : ifB (toInt E d) 0 2 = 0 := hk
    rw [zu] at hk
    split at hk
    case isFalse => cases hk
    rename_i hd
    replace h := zf h
    obtain ⟨a, _, h⟩ := h
    rw [zu] at h
    split at h
    · replace h := zf h
      obtain ⟨dd, hdd, h⟩ := h
      replace h := zf h
      obtain ⟨sd, hsd, h⟩ := h
      cases hk2 : Jv dd with
      | some k =>
        rw [hk2, zg] at h
        replace h := zl h
        obtain ⟨_, h⟩ := h
        replace h := zf h
        obtain ⟨r, _, h⟩ := h
        cases h
        rfl
      | none =>
        exfalso
        unfold toInt at hd
        rw [hdd, zg] at hd
        cases dd <;> first | (cases hd; done) | (cases hk2; done)
    replace h := zf h
    obtain ⟨dd, hdd, h⟩ := h
    have hi : isInt dd = true := by
      unfold toInt at hd
      rw [hdd, zg] at hd
      exact hd
    replace h := zf h
    obtain ⟨sd, hsd, h⟩ := h
    cases ha : asInt a with
    | some p =>
      rw [ha, zg] at h
      replace h := zf h
      obtain ⟨k, _, h⟩ := h
      replace h := zf h
      obtain ⟨n, _, h⟩ := h
      cases h
      rfl
    | none =>
      rw [ha, zm, zu] at h
      cases dd <;> try (cases hi; done)
      split at h
      · replace h := zf h
        obtain ⟨s, _, h⟩ := h
        have h : (bnd (none : Option TypeId) fun e => gX E H e s) = some (v, H') := h
        cases h
      · unfold gW at h
        cases h2 : jy sd with
        | some e =>
          rw [h2, zg] at h
          have h : (none : R) = some (v, H') := h
          cases h
        | none =>
          rw [h2, zm] at h
          cases h3 : gJ sd with
          | some t =>
            rw [h3, zg] at h
            have h : (none : R) = some (v, H') := h
            cases h
          | none =>
            rw [h3, zm, zu] at h
            split at h
            · have h : (none : R) = some (v, H') := h
              cases h
            · cases h
  case call c =>
    obtain ⟨ce, as, ts⟩ := c
    cases ce with
    | value g => exact absurd hk (by simp [j7, KO])
    | invoke r n => exact absurd hk (by simp [j7, KO])
    | builtin b =>
      refine ⟨?_, fun c hc => by cases hc; exact ⟨b, rfl⟩⟩
      have hk : ifB (ie b) 0 2 = 0 := hk
      replace h := zf h
      obtain ⟨vs, _, h⟩ := h
      unfold Xq at h
      cases vs with
      | nil => cases h
      | cons x r =>
        rw [kZ] at h
        revert h
        cases ts.toList with
        | nil => intro h; cases h
        | cons t us =>
          intro h
          simp only [kZ] at h
          cases b <;> first
            | (exfalso; revert hk; simp [ie, zu]; done)
            | exact (qD h).2
            | (cases h; done)
  all_goals
    refine nc ?_ (by intro c; simp)
    repeat (first
      | (replace h := zf h
         obtain ⟨_, _, h⟩ := h)
      | (replace h := zl h
         obtain ⟨_, h⟩ := h)
      | (replace h := kg h
         obtain ⟨_, h⟩ := h))
    cases h
    rfl
theorem Jr {o:Op}{rec:Rec}{T:Tr zd}{H H':Heap}{v:zd} (hk:j7 E o=1) (h:aop o E rec T H=some (v,H')) :
  (∃ t n c,H'=⟨H.blk.set H.next (.cells t n c),H.next+1⟩)∧(v = .ptr H.next 0∨∃ l c,v = .slice H.next 0 l c true)∧∀ c,o≠.call c:=by
 cases o<;>first | (exfalso;revert hk;simp [j7];done) | skip
 case convert s d x=>exact absurd hk (by show ifB (toInt E d) 0 2≠1;rw [zu];split<;>simp)
 case call c=>exact absurd hk (by show ifB (KO c) 0 2≠1;rw [zu];split<;>simp)
 case alloc t=>
  replace h:=zf h
  obtain ⟨z,hz,h⟩:=h
  have h:=jt h
  cases h
  exact ⟨⟨_,_,_,rfl⟩,.inl rfl,by simp⟩
 case box t x=>
  replace h:=zf h
  obtain ⟨u,hu,h⟩:=h
  replace h:=zl h
  obtain ⟨_,h⟩:=h
  have h:=jt h
  cases h
  exact ⟨⟨_,_,_,rfl⟩,.inl rfl,by simp⟩
 case buildSlice t len parts=>
  replace h:=zf h
  obtain ⟨d,hd,h⟩:=h
  replace h:=zf h
  obtain ⟨e,he,h⟩:=h
  replace h:=zf h
  obtain ⟨ps,hps,h⟩:=h
  replace h:=zf h
  obtain ⟨s,hs,h⟩:=h
  replace h:=zf h
  obtain ⟨z,hz,h⟩:=h
  replace h:=zl h
  obtain ⟨hb,h⟩:=h
  replace h:=zf h
  obtain ⟨l,hl,h⟩:=h
  replace h:=zl h
  obtain ⟨_,h⟩:=h
  have h:=jt h
  cases h
  exact ⟨⟨_,_,_,rfl⟩,.inr ⟨_,_,rfl⟩,by simp⟩
 case makeSlice t l c=>
  replace h:=zf h
  obtain ⟨d,hd,h⟩:=h
  replace h:=zf h
  obtain ⟨e,he,h⟩:=h
  replace h:=zf h
  obtain ⟨a,ha,h⟩:=h
  replace h:=zf h
  obtain ⟨b,hb,h⟩:=h
  replace h:=zf h
  obtain ⟨p,hp,h⟩:=h
  replace h:=zl h
  obtain ⟨hi,h⟩:=h
  replace h:=qP h
  obtain ⟨n,hn,h⟩:=h
  replace h:=zf h
  obtain ⟨q,hq,h⟩:=h
  replace h:=zl h
  obtain ⟨hj,h⟩:=h
  replace h:=qP h
  obtain ⟨m,hm,h⟩:=h
  replace h:=zf h
  obtain ⟨i,hi',h⟩:=h
  replace h:=zf h
  obtain ⟨z,hz,h⟩:=h
  replace h:=zl h
  obtain ⟨_,h⟩:=h
  simp only [z7]at h
  have h:=jt h
  cases h
  exact ⟨⟨_,_,_,rfl⟩,.inr ⟨_,_,rfl⟩,by simp⟩
theorem UX (o:Op):j7 E o=0∨j7 E o=1∨j7 E o=2:=by
 cases o<;>simp [j7]
 case convert s d x=>rw [zu];split<;>simp
 case call c=>rw [zu];split<;>simp
theorem JQ {ops:List Oper}{m:OpM} (hm:m∈qn E ops) (hk:m.kind≠2) :
  ((m.kind=0∧j7 E m.o.op=0)∨(m.kind=1∧j7 E m.o.op=1∧∃ d,m.o.dst=some d)) ∧
  ∀ d,m.o.dst=some d→∀ (j:Nat) (o:Oper) (a:Nat),ops[j]? = some o→(Qq ops [])[j]? = some a→looks ops o d=true→bit a m.i=true:=by
 obtain ⟨h1,h2,h3,h4⟩:=q7 hm
 rw [h4]at hk ⊢
 unfold kindOf at hk ⊢
 cases hd:m.o.dst with
 | none=>
  rw [hd,zm,zu,zG]at hk
  rw [zm,zu,zG]
  refine ⟨.inl ?_,by intro d h;cases h⟩
  split at hk
  ·exact absurd rfl hk
  ·rename_i hn
   rw [if_neg hn]
   rcases UX (E:=E) m.o.op with h | h | h
   ·exact ⟨h,h⟩
   ·exact absurd (by rw [h];rfl) hn
   ·exact absurd h hk
 | some d=>
  rw [hd,zg,zu]at hk
  rw [zg,zu]
  split at hk
  ·exact absurd rfl hk
  ·rename_i hl
   rw [if_neg hl]
   refine ⟨?_,?_⟩
   ·rcases UX (E:=E) m.o.op with h | h | h
    ·exact .inl ⟨h,h⟩
    ·exact .inr ⟨h,h,d,rfl⟩
    ·exact absurd h hk
   ·intro d' hd' j o a ho ha hlk
    cases hd'
    exact nE ops (Qq ops []) (by simpa using hl) (JZ ops).2.symm j o a ho ha hlk
theorem ZN {ops:List Oper}{m m':OpM} (h:m∈qn E ops) (h':m'∈qn E ops) (hi:m.i=m'.i):m=m':=by
 obtain ⟨a1,a2,a3,a4⟩:=q7 h
 obtain ⟨b1,b2,b3,b4⟩:=q7 h'
 obtain ⟨i,p,a,k,o⟩:=m
 obtain ⟨i',p',a',k',o'⟩:=m'
 simp only at *
 subst hi
 rw [a1]at b1
 cases b1
 rw [a2]at b2
 cases b2
 rw [a3,b3,a4,b4]
theorem Rel.aX {P:Program}{β:Inj}{H:Heap}{w:World} (hR:Rel P β H w) (b:zJ):Rel P β ⟨H.blk.set H.next b,H.next+1⟩ w where
 base:=Nat.le_succ_of_le hR.base
 blk:=fun id c x h1 h2=>by
  have h1:(H.blk.set H.next b).get id=some c:=h1
  have hid:=hR.bnd _ _ h2
  rw [Tr.zR,if_neg (by omega)]at h1
  exact hR.blk id c x h1 h2
 inj:=fun i j c d x y h1 h2 h3 h4 e=>by
  have h1:(H.blk.set H.next b).get i=some c:=h1
  have h3:(H.blk.set H.next b).get j=some d:=h3
  have hi:=hR.bnd _ _ h2
  have hj:=hR.bnd _ _ h4
  rw [Tr.zR,if_neg (by omega)]at h1 h3
  exact hR.inj _ _ _ _ _ _ h1 h2 h3 h4 e
 bnd:=fun id x h=>Nat.lt_succ_of_lt (hR.bnd id x h)
 live:=fun id c h=>by
  have h:(H.blk.set H.next b).get id=some c:=h
  show id<H.next+1
  rw [Tr.zR]at h
  split at h
  ·omega
  ·have:=hR.live _ _ h;omega
structure Lag (E:Env) (N:Nat) (fr:Fr) (ops:List Oper) (Dc:Nat→Prop) (Da:Nat) (T:Tr zd) (H:Heap) (β:Inj) (w:World) (arr:Array Value):Prop where
 rel:Rel E.P β H w
 glob:QZ E β H
 size:arr.size=fr.n
 tmp:∀ t,TV β (tv T t) (arr.getD t undef)∨∃ i o,ops[i]? = some o∧o.dst=some t∧bit Da i=true∧¬ Dc i
 sub:∀ i,Dc i→bit Da i=true
 closed:Yz ops Dc
 heavy:∀ m∈qn E ops,m.kind=2→bit Da m.i=true→Dc m.i
 rows:∀ m∈qn E ops,m.kind=1→bit Da m.i=true→¬ Dc m.i→∀ d,m.o.dst=some d→∀ c,bid (tv T d)=some c→β c=none∧c<H.next∧N≤c
 nn:N≤H.next
 apart:∀ m∈qn E ops,∀ m'∈qn E ops,m.kind=1→m'.kind=1→bit Da m.i=true→bit Da m'.i=true→¬ Dc m.i→¬ Dc m'.i→m.i≠m'.i →
  ∀ d d',m.o.dst=some d→m'.o.dst=some d'→∀ c,bid (tv T d)=some c→bid (tv T d')≠some c
 lt:∀ (i:Nat) (o:Oper) (d:Tmp),ops[i]? = some o→bit Da i=true→o.dst=some d→d<fr.n
 order:∃ L:List Nat,(∀ i,bit Da i=true↔i∈L)∧∀ L1 i L2,L=L1++i::L2→∃ o,ops[i]? = some o∧∀ e∈o.after.toList,Region.binds .any e=true→e.on∈L1
theorem UW {ops:List Oper}{Da:Nat}{i:Nat}{o:Oper} (ho:ops[i]? = some o) (hp:Yc (kF o.after.toList) Da=true)
  (h:∃ L:List Nat,(∀ i,bit Da i=true↔i∈L)∧∀ L1 i L2,L=L1++i::L2→∃ o,ops[i]? = some o∧∀ e∈o.after.toList,Region.binds .any e=true→e.on∈L1) :
  ∃ L:List Nat,(∀ j,bit (Yx Da i) j=true↔j∈L)∧∀ L1 i L2,L=L1++i::L2→∃ o,ops[i]? = some o∧∀ e∈o.after.toList,Region.binds .any e=true→e.on∈L1:=by
 obtain ⟨L,h1,h2⟩:=h
 refine ⟨L++[i],fun j=>?_,fun L1 j L2 e=>?_⟩
 ·rw [QU,Bool.or_eq_true,decide_eq_true_eq,h1,List.mem_append,List.mem_singleton]
  constructor
  ·rintro (h | h)
   ·exact .inl h
   ·exact .inr h.symm
  ·rintro (h | h)
   ·exact .inl h
   ·exact .inr h.symm
 ·rcases List.append_eq_append_iff.1 e with ⟨q,e1,e2⟩ | ⟨q,e1,e2⟩
  ·
   cases q with
   | nil=>
    simp at e1 e2
    obtain ⟨e2,_⟩:=e2
    subst e2
    subst e1
    refine ⟨o,ho,fun e he hb=>(h1 _).1 (aL hp ((Vh _ _).2 ⟨e,he,hb,rfl⟩))⟩
   | cons x q=>simp at e2
  ·cases q with
   | nil=>
    simp at e1 e2
    obtain ⟨e2,_⟩:=e2
    subst e2
    subst e1
    refine ⟨o,ho,fun e he hb=>(h1 _).1 (aL hp ((Vh _ _).2 ⟨e,he,hb,rfl⟩))⟩
   | cons x q=>
    simp only [List.cons_append,List.cons.injEq]at e2
    obtain ⟨e2,_⟩:=e2
    subst e2
    exact h2 L1 _ q e1
end
end
section
variable [Unk]
section
variable {E:Env}
theorem Yw {rec:Rec}{n:Nat}{ops:List Oper}{o:Oper}{K:cB}{T:Tr zd}{H:Heap}{r:qQ} (h:Vc E rec n ops o K T H=r) (hr:r≠.fail) :
  ∃ v H',K (match o.dst with | none=>T | some d=>T.set d v) H'=r∧(∀ d,o.dst=some d→d<n) ∧
   ((kW ops T o=true∧aop o.op E rec T H=some (v,H'))∨(kW ops T o=false∧v=qN∧H'=H)):=by
 have run:∀ (h:aB E rec n o T H K=r),∃ v H',K (match o.dst with | none=>T | some d=>T.set d v) H'=r∧(∀ d,o.dst=some d→d<n)∧aop o.op E rec T H=some (v,H'):=by
  intro h
  unfold aB at h
  cases hx:aop o.op E rec T H with
  | none=>rw [hx]at h;exact absurd h.symm hr
  | some p=>
   rw [hx,zg]at h
   rcases cg h hr with ⟨hd,h1⟩ | ⟨d,hd,hlt,h1⟩
   ·exact ⟨p.1,p.2,by rw [hd];exact h1,fun d h=>(by rw [hd]at h;cases h),rfl⟩
   ·exact ⟨p.1,p.2,by rw [hd];exact h1,fun d' h=>(by rw [hd]at h;cases h;exact hlt),rfl⟩
 unfold Vc at h
 unfold kW
 cases hg:o.guard with
 | none=>
  rw [hg]at h
  obtain ⟨v,H',a1,a2,a3⟩:=run h
  exact ⟨v,H',a1,a2,.inl ⟨rfl,a3⟩⟩
 | some g=>
  rw [hg,zg,zu]at h
  split at h
  ·exact absurd h.symm hr
  rw [zu]at h
  split at h
  ·rename_i hw
   obtain ⟨v,H',a1,a2,a3⟩:=run h
   exact ⟨v,H',a1,a2,.inl ⟨hw,a3⟩⟩
  ·rename_i hw
   rcases cg h hr with ⟨hd,h1⟩ | ⟨d,hd,hlt,h1⟩
   ·exact ⟨qN,H,by rw [hd];exact h1,fun d h=>(by rw [hd]at h;cases h),.inr ⟨by simpa using hw,rfl,rfl⟩⟩
   ·exact ⟨qN,H,by rw [hd];exact h1,fun d' h=>(by rw [hd]at h;cases h;exact hlt),.inr ⟨by simpa using hw,rfl,rfl⟩⟩
theorem iz {rec:Rec}{n:Nat}{ops:List Oper}{o:Oper}{K:cB}{T:Tr zd}{H:Heap}{r:qQ} (h:Vc E rec n ops o K T H=r) (hr:r≠.fail):∀ g,o.guard=some g→aJ ops T g=false:=by
 intro g hg
 unfold Vc at h
 rw [hg,zg,zu]at h
 split at h
 ·exact absurd h.symm hr
 ·rename_i hs;simpa using hs
theorem eL {ops:List Oper}{T:Tr zd}{H:Heap}{row:Bool}{o:Oper} (h:again E ops T H row o=true):∀ g,o.guard=some g→aJ ops T g=false:=by
 intro g hg
 unfold again at h
 rw [hg,zg,zu]at h
 split at h
 ·cases h
 ·rename_i hs;simpa using hs
noncomputable def VV (T:Tr zd) (o:Oper) (v:zd):Tr zd:=match o.dst with | none=>T | some d=>T.set d v
theorem yy {T:Tr zd}{o:Oper}{v:zd}{t:Nat} (h:o.dst≠some t):tv (VV T o v) t=tv T t:=by
 unfold VV
 cases hd:o.dst with
 | none=>rfl
 | some d=>rw [eY,if_neg (fun e=>h (by rw [hd,e]))]
theorem yV {T:Tr zd}{o:Oper}{v:zd}{d:Nat} (h:o.dst=some d):tv (VV T o v) d=v:=by
 unfold VV
 rw [h,eY,if_pos rfl]
theorem Lag.vZ {N:Nat}{fr:Fr}{ops:List Oper} (hone:yo ops=true) {Dc:Nat→Prop}{Da:Nat}{T:Tr zd}{H:Heap}{β:Inj}{w:World}{arr:Array Value} (hL:Lag E N fr ops Dc Da T H β w arr)
  {m:OpM} (hm:m∈qn E ops) (hk:m.kind≠2) (hnd:bit Da m.i=false) (hpre:Yc m.pre Da=true) {rec:Rec}{v:zd}{H':Heap}
  (hlt:∀ d,m.o.dst=some d→d<fr.n) (hx:(aop m.o.op E rec T H=some (v,H'))∨(v=qN∧H'=H)) :
  Lag E N fr ops Dc (Yx Da m.i) (VV T m.o v) H' β w arr:=by
 obtain ⟨g1,g2,g3,g4⟩:=q7 hm
 obtain ⟨hkind,_⟩:=JQ hm hk
 have hnc:¬ Dc m.i:=fun h=>by rw [hL.sub _ h]at hnd;cases hnd
 have old:∀ {i o t},ops[i]? = some o→o.dst=some t→i≠m.i→tv (VV T m.o v) t=tv T t:=by
  intro i o t hi hd hne
  apply yy
  intro hd'
  exact hne (Wz hone i m.i o m.o t hi g1 hd hd')
 have hbit:∀ i,bit (Yx Da m.i) i=true→i≠m.i→bit Da i=true:=by
  intro i hi hne
  rw [QU,Bool.or_eq_true,decide_eq_true_eq]at hi
  rcases hi with hi | hi
  ·exact hi
  ·exact absurd hi.symm hne
 have hadd:∀ i,bit Da i=true→bit (Yx Da m.i) i=true:=fun i hi=>by rw [QU,hi];rfl
 have hself:bit (Yx Da m.i) m.i=true:=by rw [QU];simp
 have hH:H'=H∨∃ b,H'=⟨H.blk.set H.next b,H.next+1⟩:=by
  rcases hx with hx | ⟨_,rfl⟩
  ·rcases hkind with ⟨_,h0⟩ | ⟨_,h1,_⟩
   ·exact .inl (YU h0 hx).1
   ·obtain ⟨⟨t,n,c,e⟩,_⟩:=Jr h1 hx
    exact .inr ⟨_,e⟩
  ·exact .inl rfl
 have hrel:Rel E.P β H' w:=by
  rcases hH with rfl | ⟨b,rfl⟩
  ·exact hL.rel
  ·exact hL.rel.aX b
 have hnext:H.next≤H'.next:=by
  rcases hH with rfl | ⟨b,rfl⟩
  ·exact Nat.le_refl _
  ·exact Nat.le_succ _
 have hbid:m.kind=1→∀ c,bid v=some c→c=H.next∧H'.next=H.next+1:=by
  intro h1 c hc
  rcases hkind with ⟨h0,_⟩ | ⟨_,hop,_⟩
  ·rw [h0]at h1;cases h1
  ·rcases hx with hx | ⟨rfl,_⟩
   ·obtain ⟨⟨t,n,cc,e⟩,hv,_⟩:=Jr hop hx
    rcases hv with rfl | ⟨l,cp,rfl⟩
    ·cases hc;exact ⟨rfl,by rw [e]⟩
    ·cases hc;exact ⟨rfl,by rw [e]⟩
   ·cases hc
 have htabs:∀ p∈E.zW,p.1<100∧H'.blk.get p.1=some p.2:=by
  intro p hp
  obtain ⟨t1,t2⟩:=hL.glob.zW p hp
  refine ⟨t1,?_⟩
  have hb:=hL.rel.base
  rcases hH with rfl | ⟨b,rfl⟩
  ·exact t2
  ·show (H.blk.set H.next b).get p.1=_
   rw [Tr.zR,if_neg (by omega)]
   exact t2
 refine ⟨hrel,⟨hL.glob.at_,Nat.le_trans hL.glob.next hnext,hL.glob.facts,htabs,hL.glob.alts⟩,hL.size,?_,fun i hi=>hadd i (hL.sub i hi),hL.closed,?_,?_,Nat.le_trans hL.nn hnext,?_,?_,?_⟩
 ·intro t
  by_cases hd:m.o.dst=some t
  ·exact .inr ⟨m.i,m.o,g1,hd,hself,hnc⟩
  ·rw [yy hd]
   rcases hL.tmp t with h | ⟨i,o,h1,h2,h3,h4⟩
   ·exact .inl h
   ·exact .inr ⟨i,o,h1,h2,hadd i h3,h4⟩
 ·intro m' hm' hk' hb
  by_cases hi:m'.i=m.i
  ·have:=ZN hm' hm hi
   subst this
   exact absurd hk' hk
  ·exact hL.heavy m' hm' hk' (hbit _ hb hi)
 ·intro m' hm' hk' hb hn d hd c hc
  by_cases hi:m'.i=m.i
  ·have:=ZN hm' hm hi
   subst this
   rw [yV hd]at hc
   obtain ⟨rfl,e⟩:=hbid hk' c hc
   exact ⟨hL.rel.fresh (Nat.le_refl _),by omega,hL.nn⟩
  ·obtain ⟨q1,_⟩:=q7 hm'
   rw [old q1 hd hi]at hc
   obtain ⟨c1,c2,c3⟩:=hL.rows m' hm' hk' (hbit _ hb hi) hn d hd c hc
   exact ⟨c1,by omega,c3⟩
 ·intro m1 hm1 m2 hm2 k1 k2 b1 b2 n1 n2 hne d1 d2 e1 e2 c hc hc'
  obtain ⟨q1,_⟩:=q7 hm1
  obtain ⟨q2,_⟩:=q7 hm2
  by_cases hi1:m1.i=m.i
  ·have:=ZN hm1 hm hi1
   subst this
   rw [yV e1]at hc
   rw [old q2 e2 (fun h=>hne h.symm)]at hc'
   obtain ⟨rfl,_⟩:=hbid k1 c hc
   have:=(hL.rows m2 hm2 k2 (hbit _ b2 (fun h=>hne h.symm)) n2 d2 e2 _ hc').2.1
   omega
  ·by_cases hi2:m2.i=m.i
   ·have:=ZN hm2 hm hi2
    subst this
    rw [yV e2]at hc'
    rw [old q1 e1 hi1]at hc
    obtain ⟨rfl,_⟩:=hbid k2 c hc'
    have:=(hL.rows m1 hm1 k1 (hbit _ b1 hi1) n1 d1 e1 _ hc).2.1
    omega
   ·rw [old q1 e1 hi1]at hc
    rw [old q2 e2 hi2]at hc'
    exact hL.apart m1 hm1 m2 hm2 k1 k2 (hbit _ b1 hi1) (hbit _ b2 hi2) n1 n2 hne d1 d2 e1 e2 c hc hc'
 ·intro i o d hi hb hd
  by_cases he:i=m.i
  ·subst he
   rw [g1]at hi
   cases hi
   exact hlt d hd
  ·exact hL.lt i o d hi (hbit _ hb he) hd
 ·exact UW g1 (by rw [← g3];exact hpre) hL.order
theorem Lag.looks {N:Nat}{fr:Fr}{ops:List Oper}{Dc:Nat→Prop}{Da:Nat}{T:Tr zd}{H:Heap}{β:Inj}{w:World}{arr:Array Value} (hL:Lag E N fr ops Dc Da T H β w arr)
  {j:Nat}{o:Oper} (ho:ops[j]? = some o) (hpre:∀ e∈o.after.toList,Region.binds .any e=true→Dc e.on) {t:Nat} (hlk:looks ops o t=true) :
  TV β (tv T t) (arr.getD t undef):=by
 rcases hL.tmp t with h | ⟨i,oi,h1,h2,h3,h4⟩
 ·exact h
 ·exfalso
  obtain ⟨m,hm,hmi,hmo⟩:=dC E h1
  have hk:m.kind≠2:=fun hk=>h4 (by rw [← hmi];exact hL.heavy m hm hk (by rw [hmi];exact h3))
  have hj:=(List.getElem?_eq_some_iff.1 ho).1
  obtain ⟨a,ha⟩:∃ a,(Qq ops [])[j]? = some a:=⟨_,List.getElem?_eq_getElem (by rw [(JZ ops).2];exact hj)⟩
  have hbit:=(JQ hm hk).2 t (by rw [hmo];exact h2) j o a ho ha hlk
  rw [hmi]at hbit
  obtain ⟨o',ho',hall⟩:=(JZ ops).1 j a i ha hbit
  rw [ho]at ho'
  cases ho'
  exact h4 (hall Dc hL.closed hpre)
theorem Lag.operands {N:Nat}{fr:Fr}{ops:List Oper}{Dc:Nat→Prop}{Da:Nat}{T:Tr zd}{H:Heap}{β:Inj}{w:World}{a:Act} (hL:Lag E N fr ops Dc Da T H β w a.tmps)
  {j:Nat}{o:Oper} (ho:ops[j]? = some o) (hpre:∀ e∈o.after.toList,Region.binds .any e=true→Dc e.on):JB T β a.eval o.op.operands:=by
 intro x hx v hv
 cases x with
 | tmp t=>
  obtain ⟨e,hn⟩:=Ky (t:=t) hv
  have hlk:AEv.looks ops o t=true:=by
   unfold AEv.looks
   rw [zu,if_pos]
   rw [uq]
   simpa using hx
  obtain ⟨h1,h2⟩:=(hL.looks ho hpre hlk).known (by rw [e];exact hn)
  rw [e]at h1 h2
  exact ⟨h2,h1⟩
 | const c=>exact ⟨((Qj β 5000).1 c v hv).1.symm,((Qj β 5000).1 c v hv).2⟩
 | global g=>
  have hv:ifB (Nat.blt g 60) (some (zd.ptr g 0)) none=some v:=hv
  replace hv:=zl hv
  obtain ⟨h1,hv⟩:=hv
  rw [qo,decide_eq_true_eq]at h1
  cases hv
  have hb:=hL.glob.at_ g (by omega)
  rw [Unk.glob g h1]at hb
  refine ⟨?_,by simp [WF,hb]⟩
  simp [Act.eval,zh,Inj.addr,Inj.blk,Inj.sh,hb]
 | func f=>cases hv;exact ⟨rfl,trivial,trivial⟩
theorem eE {β:Inj}{T:Tr zd}{arr:Array Value} (d:Tmp) (want:Bool) (ha:arr.getD d undef=zh β (tv T d)) (hs:zt (T.get d) false ZO=false) :
  Xj T d want=((match arr[d]? with | some (.bool b)=>some b | _=>none)==some want):=by
 rw [Array.getD_eq_getD_getElem?]at ha
 unfold Xj
 cases ht:T.get d with
 | none=>
  rw [show tv T d=qN by unfold tv;rw [ht];rfl]at ha
  rw [zm]
  cases he:arr[d]? with
  | none=>rfl
  | some x=>
   rw [he]at ha
   have:x=undef:=by simpa using ha
   subst this
   rfl
 | some v=>
  rw [show tv T d=v by unfold tv;rw [ht];rfl]at ha
  rw [zg]
  cases hb:asBool v with
  | some b=>
   have:=yx hb
   subst this
   rw [zg]
   have:arr[d]? = some (.bool b):=by
    cases he:arr[d]? with
    | none=>rw [he]at ha;simp [zh,undef]at ha
    | some x=>rw [he]at ha;simp [zh]at ha;rw [ha]
   rw [this,QV]
   cases b<;>cases want<;>rfl
  | none=>
   rw [zm]
   cases he:arr[d]? with
   | none=>rfl
   | some x=>
    rw [he]at ha
    have ha:x=zh β v:=by simpa using ha
    subst ha
    cases v<;>first | rfl | (cases hb;done) | (rename_i i;rw [ht,zg]at hs;cases hs;done)
theorem Lag.wanted {N:Nat}{fr:Fr}{ops:Array Oper}{Dc:Nat→Prop}{Da:Nat}{T:Tr zd}{H:Heap}{β:Inj}{w:World}{arr:Array Value} (hL:Lag E N fr ops.toList Dc Da T H β w arr)
  {j:Nat}{o:Oper} (ho:ops.toList[j]? = some o) (hpre:∀ e∈o.after.toList,Region.binds .any e=true→Dc e.on) (hs:∀ g,o.guard=some g→aJ ops.toList T g=false):Region.wanted o (yielded ops arr)=kW ops.toList T o:=by
 unfold Region.wanted kW
 cases hg:o.guard with
 | none=>rfl
 | some g=>
  obtain ⟨i,want⟩:=g
  simp only [YF,kb]
  unfold yielded
  rw [Array.getElem?_toList]
  cases hj:ops[i]? with
  | none=>rfl
  | some q=>
   simp only [Option.bind_some,zg]
   cases hq:q.dst with
   | none=>rfl
   | some d=>
    simp only [Option.bind_some,zg]
    have hlk:AEv.looks ops.toList o d=true:=by
     unfold AEv.looks
     rw [zu]
     split
     ·rfl
     ·rw [hg,zg,kb,Array.getElem?_toList,hj,zg,hq,zg,zG]
      simp
    have h1:=hs _ hg
    simp only [aJ,kb]at h1
    rw [Array.getElem?_toList,hj,zg,hq,zg]at h1
    obtain ⟨hn,h1⟩:=WR h1
    exact (eE d want ((hL.looks ho hpre hlk).known hn).2 h1).symm
end
end
section
variable [Unk]
theorem zZ.back {P:Program}{β β1:Inj} (l:β.le β1) {b:zJ}{y:Nat×Nat×Nat}{w w1:World} (h:zZ P β b y w) (h1:zZ P β1 b y w1):zZ P β b y w1:=by
 cases b with
 | cells t n c=>
  obtain ⟨arr,fz,_,r⟩:=h
  obtain ⟨arr1,fz1,e1,r1⟩:=h1
  refine ⟨arr1,fz1,e1,r1.size,fun i v hv=>?_,r1.thaw,r1.al⟩
  obtain ⟨a1,_⟩:=r.cell i v hv
  obtain ⟨_,b2⟩:=r1.cell i v hv
  exact ⟨a1,by rw [b2,(WF.mono l v a1).2]⟩
 | map es clock=>
  obtain ⟨arr,_,_,r⟩:=h
  obtain ⟨arr1,e1,q1,_⟩:=h1
  refine ⟨arr1,e1,?_,r⟩
  rw [q1]
  exact List.map_congr_left fun e he=>KA l e (r e he).1 (r e he).2.1
 | siter s p=>exact h1
 | text t v=>
  obtain ⟨arr,fz,_,r⟩:=h
  obtain ⟨arr1,fz1,e1,r1⟩:=h1
  have e:=(WF.mono l v r.wf).2
  exact ⟨arr1,fz1,e1,r.wf,by rw [← e];exact r1.is,r1.size,by rw [← e];exact r1.cell,r1.thaw,r1.one⟩
 | ints t v=>
  obtain ⟨arr,fz,_,r⟩:=h
  obtain ⟨arr1,fz1,e1,r1⟩:=h1
  have e:=(WF.mono l v r.wf).2
  exact ⟨arr1,fz1,e1,r.wf,by rw [← e];exact r1.is,r1.size,by rw [← e];exact r1.cell,r1.thaw,r1.one⟩
 | view c=>
  obtain ⟨arr,t,fz,_,r⟩:=h
  obtain ⟨arr1,t1,fz1,e1,r1⟩:=h1
  exact ⟨arr1,t1,fz1,e1,fun i v hv=>⟨(r i v hv).1,by rw [← (WF.mono l v (r i v hv).1).2];exact (r1 i v hv).2⟩⟩
 | pack t n N=>
  obtain ⟨arr1,fz1,e1,r1⟩:=h1
  exact ⟨arr1,fz1,e1,r1.bytes⟩
 | loop st pend fn n T ps as bo=>
  obtain ⟨tmps,d,_,r⟩:=h
  obtain ⟨tmps1,d1,e1,r1⟩:=h1
  refine ⟨tmps1,d1,e1,r1.size,fun i=>?_⟩
  rcases r.tmp i with h | ⟨h,_⟩
  ·exact .inl h
  ·rcases r1.tmp i with h2 | ⟨_,h2⟩
   ·exact .inl h2
   ·exact .inr ⟨h,by rw [h2,(WF.mono l _ h).2]⟩
theorem pC {r q:Row} (h:pD r q=true):r=q:=by
 unfold pD at h
 simp only [zB,Bool.and_eq_true,zG,beq_iff_eq]at h
 obtain ⟨t,n,c⟩:=r
 obtain ⟨t',n',c'⟩:=q
 simp only at h
 rw [h.1,h.2.1,aE _ _ h.2.2]
section
variable {E:Env} (hE:jU E)
include hE
theorem nh {β:Inj}{l:List zd} (h:WFs β l):∀ i v,(Tr.ofList l).get i=some v→WF β v:=by
 have _:=hE
 intro i v hv
 rw [Tr.qV]at hv
 exact (jb _ _).1 h v (List.mem_of_getElem? hv)
theorem rY {o:Op}{rec:Rec}{T:Tr zd}{H H':Heap}{v:zd} (hk:j7 E o=1) (h:aop o E rec T H=some (v,H')) {β:Inj}{w:World}{ρ:Operand→Value} (hρ:JB T β ρ o.operands) :
  ∀ q,H'.row H.next=some q→∀ i u,q.c.get i=some u→WF β u:=by
 have fin:∀ (t:TypeId) (l:List zd),WFs β l→∀ q,(Heap.new H t l).row H.next=some q→∀ i u,q.c.get i=some u→WF β u:=by
  intro t l hl q hq i u hu
  obtain ⟨b0,hb,ha⟩:=QC hq
  have hb:(H.blk.set H.next (.cells t (qT l 0) (Tr.ofList l))).get H.next=some b0:=hb
  rw [Tr.zR,if_pos rfl]at hb
  cases hb
  cases ha
  exact nh hE hl i u hu
 cases o<;>first | (exfalso;revert hk;simp [j7];done) | skip
 case convert s d x=>exact absurd hk (by show ifB (toInt E d) 0 2≠1;rw [zu];split<;>simp)
 case call c=>exact absurd hk (by show ifB (KO c) 0 2≠1;rw [zu];split<;>simp)
 case alloc t=>
  replace h:=zf h
  obtain ⟨z,hz,h⟩:=h
  have h:=jt h
  cases h
  exact fin t _ (jm (jL hE hz β w).2)
 case box t x=>
  replace h:=zf h
  obtain ⟨u,hu,h⟩:=h
  replace h:=zl h
  obtain ⟨_,h⟩:=h
  have h:=jt h
  cases h
  exact fin t _ (jm (hρ x (by simp [Op.operands]) _ hu).2)
 case buildSlice t len parts=>
  replace h:=zf h
  obtain ⟨d,hd,h⟩:=h
  replace h:=zf h
  obtain ⟨e,he,h⟩:=h
  replace h:=zf h
  obtain ⟨ps,hps,h⟩:=h
  replace h:=zf h
  obtain ⟨s,hs,h⟩:=h
  replace h:=zf h
  obtain ⟨z,hz,h⟩:=h
  replace h:=zl h
  obtain ⟨hb,h⟩:=h
  rw [zB,Bool.and_eq_true,zN,decide_eq_true_eq,zG,beq_iff_eq,jz]at hb
  replace h:=zf h
  obtain ⟨l,hl,h⟩:=h
  replace h:=zl h
  obtain ⟨_,h⟩:=h
  have h:=jt h
  cases h
  obtain ⟨g1,g2⟩:=Yq (ρ:=ρ) parts.toList ps hps (fun x hx v hv=>hρ x (by simpa [Op.operands] using hx) v hv)
  have hw:=XO (jm (jL hE hz β w).2) len
  have hl:aa (Yr s) (len*s) ps (yY (zP z) len)=some l:=hl
  rw [← QD (zP z) s hb.2 len]at hl
  exact fin e l (QK (β:=β) (Yr s) ps _ l hl g2 hw).2.1
 case makeSlice t l c=>
  replace h:=zf h
  obtain ⟨d,hd,h⟩:=h
  replace h:=zf h
  obtain ⟨e,he,h⟩:=h
  replace h:=zf h
  obtain ⟨a,ha,h⟩:=h
  replace h:=zf h
  obtain ⟨b,hb,h⟩:=h
  replace h:=zf h
  obtain ⟨p,hp,h⟩:=h
  replace h:=zl h
  obtain ⟨hi,h⟩:=h
  replace h:=qP h
  obtain ⟨n,hn,h⟩:=h
  replace h:=zf h
  obtain ⟨q,hq,h⟩:=h
  replace h:=zl h
  obtain ⟨hj,h⟩:=h
  replace h:=qP h
  obtain ⟨m,hm,h⟩:=h
  replace h:=zf h
  obtain ⟨i,hi',h⟩:=h
  replace h:=zf h
  obtain ⟨z,hz,h⟩:=h
  replace h:=zl h
  obtain ⟨_,h⟩:=h
  simp only [z7]at h
  have h:=jt h
  cases h
  exact fin e _ (XO (jm (jL hE hz β w).2) m)
omit hE in
theorem mb {a:Act}{o:Oper}{x:Value}{t:Nat} (h:o.dst≠some t):(a.put o.dst x).tmps.getD t undef=a.tmps.getD t undef:=by
 cases hd:o.dst with
 | none=>rfl
 | some d=>
  have:d≠t:=fun e=>h (by rw [hd,e])
  simp [Act.put,Array.getD_eq_getD_getElem?,this]
omit hE in
theorem Xm {a:Act}{o:Oper}{x:Value}{d:Nat} (h:o.dst=some d) (hd:d<a.tmps.size):(a.put o.dst x).tmps.getD d undef=x:=by
 simp [h,Act.put,Array.getD_eq_getD_getElem?,hd]
omit hE in
theorem cS (a:Act) (dst:Option Tmp) (x:Value):(a.put dst x).tmps.size=a.tmps.size:=by cases dst<;>simp [Act.put]
omit hE in
theorem KL {ops:List Oper}{Dc:Nat→Prop} (h:Yz ops Dc) {i:Nat}{o:Oper} (ho:ops[i]? = some o) (hpre:∀ e∈o.after.toList,Region.binds .any e=true→Dc e.on):Yz ops fun j=>Dc j∨j=i:=by
 rintro j o' hj (hd | rfl) e he hb
 ·exact .inl (h j o' hj hd e he hb)
 ·rw [ho]at hj
  cases hj
  exact .inl (hpre e he hb)
theorem Lag.same {N:Nat}{fr:Fr}{ops:List Oper} (hone:yo ops=true) {Dc:Nat→Prop}{Da:Nat}{T:Tr zd}{H:Heap}{β β1:Inj}{w w1:World}{a:Act} (hL:Lag E N fr ops Dc Da T H β w a.tmps)
  {m:OpM} (hm:m∈qn E ops) (hb:bit Da m.i=true) (hpre:∀ e∈m.o.after.toList,Region.binds .any e=true→Dc e.on) {v:zd} (hv:WF β1 v) (hR:Rel E.P β1 H w1) (hle:β.le β1)
  (hG:QZ E β1 H) (hT:∀ d,m.o.dst=some d→tv T d=v) (hrow:∀ m'∈qn E ops,m'.kind=1→bit Da m'.i=true→¬ (Dc m'.i∨m'.i=m.i)→∀ d,m'.o.dst=some d→∀ c,bid (tv T d)=some c→β1 c=none) :
  Lag E N fr ops (fun j=>Dc j∨j=m.i) Da T H β1 w1 (a.put m.o.dst (zh β1 v)).tmps:=by
 have _:=hone
 have _:=hE
 obtain ⟨g1,_⟩:=q7 hm
 refine ⟨hR,hG,by rw [cS];exact hL.size,?_,?_,KL hL.closed g1 hpre,?_,?_,hL.nn,?_,hL.lt,hL.order⟩
 ·intro t
  by_cases hd:m.o.dst=some t
  ·left
   rw [hT t hd]
   refine .inr ⟨hv,Xm hd ?_⟩
   rw [hL.size]
   exact hL.lt m.i m.o t g1 hb hd
  ·rw [mb hd]
   rcases hL.tmp t with h | ⟨i,o,h1,h2,h3,h4⟩
   ·exact .inl (h.mono hle)
   ·refine .inr ⟨i,o,h1,h2,h3,?_⟩
    rintro (h | rfl)
    ·exact h4 h
    ·rw [g1]at h1;cases h1;exact hd h2
 ·rintro i (h | rfl)
  ·exact hL.sub i h
  ·exact hb
 ·intro m' hm' hk' hb'
  exact .inl (hL.heavy m' hm' hk' hb')
 ·intro m' hm' hk' hb' hn d hd c hc
  obtain ⟨_,c2,c3⟩:=hL.rows m' hm' hk' hb' (fun h=>hn (.inl h)) d hd c hc
  exact ⟨hrow m' hm' hk' hb' hn d hd c hc,c2,c3⟩
 ·intro m1 hm1 m2 hm2 k1 k2 b1 b2 n1 n2
  exact hL.apart m1 hm1 m2 hm2 k1 k2 b1 b2 (fun h=>n1 (.inl h)) (fun h=>n2 (.inl h))
theorem fD {β β1:Inj}{H:Heap}{w w1:World} (hR:Rel E.P β H w) {b:zJ} (hR1:Rel E.P β1 ⟨H.blk.set H.next b,H.next+1⟩ w1) (hX:Ext β H w β1 ⟨H.blk.set H.next b,H.next+1⟩ w1)
  {x:Nat×Nat×Nat} (hx:β1 H.next=some x) {q:Row} (hbq:b = .cells q.t q.n q.c) (hq:∀ i u,q.c.get i=some u→WF β u) {c:Nat} (hc:β c=none) (hcl:c<H.next) (hrow:H.row c=some q) :
  Rel E.P (β.put c x) H w1∧w.heap.size≤x.1:=by
 have _:=hE
 have hle1:β.le β1:=hX.le hR.bnd
 have hle2:β.le (β.put c x):=Inj.j4 hc
 have hself:(H.blk.set H.next b).get H.next=some b:=by rw [Tr.zR,if_pos rfl]
 have hold:∀ {id bl},H.blk.get id=some bl→(H.blk.set H.next b).get id=some bl:=by
  intro id bl h
  have:=hR.live _ _ h
  rw [Tr.zR,if_neg (by omega)]
  exact h
 have hapart:∀ {id bl y},H.blk.get id=some bl→β id=some y→y.1≠x.1:=by
  intro id bl y h1 h2 e
  have:=hR1.Ja (.inr hR.base) (hold h1) (hle1 _ _ h2) hself hx e
  have:=hR.live _ _ h1
  omega
 have hnew:w.heap.size≤x.1:=by
  rcases hX.new H.next x (Nat.le_refl _) hx with h | ⟨i,bl,y,_,h1,h2,h3⟩
  ·exact h
  ·exact absurd h3 (hapart h1 h2)
 refine ⟨⟨hR.base,?_,?_,?_,hR.live⟩,hnew⟩
 ·intro id bl y h1 h2
  by_cases hid:id=c
  ·subst hid
   rw [Inj.zM]at h2
   cases h2
   obtain ⟨b0,h1',ha⟩:=QC hrow
   rw [h1]at h1'
   cases h1'
   refine (ax ha).2 ?_
   obtain ⟨arr,fz,e1,e2⟩:=hR1.blk H.next b x hself hx |> fun h=>by rw [hbq]at h;exact h
   refine ⟨arr,fz,e1,e2.size,fun i u hu=>?_,e2.thaw,e2.al⟩
   obtain ⟨_,f2⟩:=e2.cell i u hu
   have hw:=hq i u hu
   obtain ⟨k1,k2⟩:=WF.mono hle2 u hw
   exact ⟨k1,by rw [f2,(WF.mono hle1 u hw).2,k2]⟩
  ·rw [Inj.z8 _ _ hid]at h2
   exact ((hR.blk id bl y h1 h2).back hle1 (hR1.blk id bl y (hold h1) (hle1 _ _ h2))).mono hle2
 ·intro i j bi bj y z h1 h2 h3 h4 e
  by_cases hi:i=c
  ·by_cases hj:j=c
   ·exact .inl (by rw [hi,hj])
   ·subst hi
    rw [Inj.zM]at h2
    cases h2
    rw [Inj.z8 _ _ hj]at h4
    exact absurd e.symm (hapart h3 h4)
  ·rw [Inj.z8 _ _ hi]at h2
   by_cases hj:j=c
   ·subst hj
    rw [Inj.zM]at h4
    cases h4
    exact absurd e (hapart h1 h2)
   ·rw [Inj.z8 _ _ hj]at h4
    exact hR.inj i j bi bj y z h1 h2 h3 h4 e
 ·intro id y h
  by_cases hid:id=c
  ·omega
  ·rw [Inj.z8 _ _ hid]at h;exact hR.bnd id y h
theorem Lag.step {N : Nat} {fr : Fr} {ops : Array Oper} (hone : yo ops.toList = true) {Dc : Nat → Prop} {Da : Nat} {T : Tr zd} {H : Heap} {β : Inj} {w : World} {a : Act} (hL : Lag E N fr ops.toList Dc Da T H β w a.tmps)
    {m : OpM} (hm : m ∈ qn E ops.toList) (hk : m.kind ≠ 2) (hb : bit Da m.i = true) (hn : ¬ Dc m.i) (hpre : ∀ e ∈ m.o.after.toList, Region.binds .any e = true → Dc e.on)
    (hag : again E ops.toList T H (isK 1 m) m.o = true) {β0 : Inj} {H0 : Heap} {w0 : World} (hX0 : Ext β0 H0 w0 β H w) (hN : H0.next = N) (b : Frame) (rest : List Nat) (k : List Item) (cs : List Frame) :
    ∃ β' w' a', Lag E N fr ops.toList (fun j => Dc j ∨ j = m.i) Da T H β' w' a'.tmps ∧ Ext β0 H0 w0 β' H w' ∧ a'.defers = a.defers ∧
      Steps E.P (lone (b.atR a (.inRegion ops (m.i :: rest) :: k)) cs w) (lone (b.atR a' (.inRegion ops rest :: k)) cs w') := by
  obtain ⟨g1, _⟩ := q7 hm
  have ho : ops[m.i]? = some m.o := by rw [← Array.getElem?_toList]; exact g1
  have hsg := eL hag
  have hw := hL.wanted g1 hpre hsg
  obtain ⟨hkind, _⟩ := JQ hm hk
  have unw : kW ops.toList T m.o = false → sameAs T m.o.dst qN = true → ∃ β' w' a', Lag E N fr ops.toList (fun j => Dc j ∨ j = m.i) Da T H β' w' a'.tmps ∧ Ext β0 H0 w0 β' H w' ∧ a'.defers = a.defers ∧
      Steps E.P (lone (b.atR a (.inRegion ops (m.i :: rest) :: k)) cs w) (lone (b.atR a' (.inRegion ops rest :: k)) cs w') := by
    intro hf hs
    have hstep := stepR_op_skip (P := E.P) (b := b) (a := a) (k := k) (cs := cs) (w := w) (ops := ops) (i := m.i) (rest := rest) (by rw [ho]; simp only [Option.map_some, Option.getD_some]; rw [hw]; exact hf)
    rw [ho] at hstep
    simp only [Option.bind_some] at hstep
    have := hL.same hE hone hm hb hpre (v := qN) (by simp) hL.rel (Inj.le.refl _) hL.glob (by
      intro d hd
      unfold sameAs at hs
      rw [hd, zg] at hs
      unfold tv
      cases ht : T.get d with
      | none => rfl
      | some u => rw [ht, zg] at hs; rw [zX _ _ hs]; rfl) (fun m' hm' hk' hb' hn' d hd c hc => (hL.rows m' hm' hk' hb' (fun h => hn' (.inl h)) d hd c hc).1)
    rw [QR] at this
    exact ⟨β, w, _, this, hX0, put_defers _ _ _, .one hstep⟩
  have wan : kW ops.toList T m.o = true → cn E T H (isK 1 m) m.o = true → ∃ β' w' a', Lag E N fr ops.toList (fun j => Dc j ∨ j = m.i) Da T H β' w' a'.tmps ∧ Ext β0 H0 w0 β' H w' ∧ a'.defers = a.defers ∧
      Steps E.P (lone (b.atR a (.inRegion ops (m.i :: rest) :: k)) cs w) (lone (b.atR a' (.inRegion ops rest :: k)) cs w') := by
    intro hf hs
    unfold cn at hs
    cases hx : aop m.o.op E k7 T H with
    | none => rw [hx] at hs; cases hs
    | some p =>
      obtain ⟨v, H1⟩ := p
      rw [hx, zg] at hs
      have hops := hL.operands g1 hpre
      have hcall : ∀ c, m.o.op = .call c → ∃ bb, c.callee = .builtin bb := by
        rcases hkind with ⟨_, h0⟩ | ⟨_, h1, _⟩
        · exact (YU h0 hx).2
        · exact fun c hc => absurd hc ((Jr h1 hx).2.2 c)
      obtain ⟨x, w1, ⟨β1, rfl, r1, r2, r3⟩, hst⟩ := (aA hE hL.rel hL.glob.facts hx hops hcall).res.steps (b := b) (rest := rest) (k := k) (cs := cs) ho (hw.trans hf) (Wi hx)
      have hle1 := r3.le hL.rel.bnd
      rcases hkind with ⟨hk0, h0⟩ | ⟨hk1, h1, d, hd⟩
      ·
        obtain ⟨rfl, _⟩ := YU h0 hx
        have hz : isK 1 m = false := by unfold isK; rw [hk0]; rfl
        rw [hz, yq] at hs
        have := hL.same hE hone hm hb hpre r1 r2 hle1 (hL.glob.ext hL.rel.bnd r3) (by
          intro d hd
          unfold sameAs at hs
          rw [hd, zg] at hs
          unfold tv
          cases ht : T.get d with
          | none => rw [ht] at hs; cases hs
          | some u => rw [ht, zg] at hs; rw [zX _ _ hs]; rfl) (fun m' hm' hk' hb' hn' d hd c hc => by
            obtain ⟨c1, c2, _⟩ := hL.rows m' hm' hk' hb' (fun h => hn' (.inl h)) d hd c hc
            rw [r3.old c c2]; exact c1)
        exact ⟨β1, w1, _, this, hX0.trans r3, put_defers _ _ _, hst⟩
      ·
        have hz : isK 1 m = true := by unfold isK; rw [hk1]; rfl
        rw [hz, qI] at hs
        obtain ⟨⟨t, n, cc, rfl⟩, hvf, _⟩ := Jr h1 hx
        unfold iX at hs
        rw [hd, zg] at hs
        cases ht : T.get d with
        | none => rw [ht] at hs; cases hs
        | some u =>
          rw [ht, zg] at hs
          cases hu : bid u with
          | none => rw [hu] at hs; cases hs
          | some c =>
            rw [hu, zg] at hs
            cases hrc : H.row c with
            | none => rw [hrc] at hs; cases hs
            | some q =>
              rw [hrc, zg] at hs
              cases hrn : (Heap.row ⟨H.blk.set H.next (.cells t n cc), H.next + 1⟩ H.next) with
              | none => simp only [hrn] at hs; cases hs
              | some q' =>
                simp only [hrn, zg] at hs
                rw [zB, Bool.and_eq_true] at hs
                have hre := zX _ _ hs.1
                have hqq := pC hs.2
                subst hqq
                have htv : tv T d = u := by unfold tv; rw [ht]; rfl
                obtain ⟨c1, c2, c3⟩ := hL.rows m hm hk1 hb hn d hd c (by rw [htv]; exact hu)
                have hwf := rY hE h1 hx (w := w) hops q hrn
                have hbk : zJ.cells t n cc = .cells q.t q.n q.c := by
                  obtain ⟨b0, this, ha⟩ := QC hrn
                  have this : (H.blk.set H.next (.cells t n cc)).get H.next = some b0 := this
                  rw [Tr.zR, if_pos rfl] at this
                  cases this
                  cases ha
                  rfl
                have hsome : (β1 H.next).isSome := by
                  rcases hvf with rfl | ⟨l, cp, rfl⟩
                  · exact r1
                  · exact r1.1
                obtain ⟨x, hx1⟩ := Option.isSome_iff_exists.1 hsome
                obtain ⟨k1, k2⟩ := fD hE hL.rel r2 r3 hx1 hbk hwf c1 c2 hrc
                have hcv : WF (β.put c x) u ∧ zh (β.put c x) u = zh β1 v := by
                  rw [← hre]
                  rcases hvf with rfl | ⟨l, cp, rfl⟩
                  · refine ⟨by simp [ua, WF, Inj.zM], ?_⟩
                    simp [ua, zh, Inj.addr, Inj.blk, Inj.sh, Inj.zM, hx1]
                  · refine ⟨⟨by simp [Inj.zM], r1.2⟩, ?_⟩
                    simp [ua, zh, Inj.addr, Inj.blk, Inj.sh, Inj.zM, hx1]
                have hgl : QZ E (β.put c x) H := by
                  refine ⟨fun g hg => ?_, hL.glob.next, hL.glob.facts.mono (Inj.j4 c1), hL.glob.zW, hL.glob.alts.mono (Inj.j4 c1)⟩
                  rw [Inj.z8]
                  · exact hL.glob.at_ g hg
                  · rintro rfl
                    rw [hL.glob.at_ g hg] at c1
                    cases c1
                have := hL.same hE hone hm hb hpre (v := u) hcv.1 k1 (Inj.j4 c1) hgl (by
                  intro d' hd'
                  rw [hd] at hd'
                  cases hd'
                  exact htv) (fun m' hm' hk' hb' hn' d' hd' c' hc' => by
                    obtain ⟨e1, _, _⟩ := hL.rows m' hm' hk' hb' (fun h => hn' (.inl h)) d' hd' c' hc'
                    have hne : c' ≠ c := by
                      rintro rfl
                      exact hL.apart m hm m' hm' hk1 hk' hb hb' hn (fun h => hn' (.inl h)) (fun e => hn' (.inr e.symm)) d d' hd hd' c' (by rw [htv]; exact hu) hc'
                    rw [Inj.z8 _ _ hne]; exact e1)
                rw [hcv.2] at this
                refine ⟨β.put c x, w1, _, this, ?_, put_defers _ _ _, hst⟩
                refine ⟨fun id hid => ?_, hX0.next, hX0.apart, hX0.gone, hX0.ro, fun id y hid hy => ?_, fun c' hc' hr => ?_, Nat.le_trans hX0.size r3.size, r3.tape.trans hX0.tape, r3.os.trans hX0.os, r3.output.trans hX0.output⟩
                · rw [Inj.z8 _ _ (by omega)]; exact hX0.old id hid
                · by_cases hidc : id = c
                  · subst hidc
                    rw [Inj.zM] at hy
                    cases hy
                    exact .inl (Nat.le_trans hX0.size k2)
                  · rw [Inj.z8 _ _ hidc] at hy
                    exact hX0.new id y hid hy
                · rw [r3.frame c' (Nat.lt_of_lt_of_le hc' hX0.size) ?_]
                  · exact hX0.frame c' hc' hr
                  · intro hr'
                    rcases hX0.pM hr' with h | h
                    · omega
                    · exact hr h
  unfold again at hag
  unfold kW at unw wan
  cases hg : m.o.guard with
  | none =>
    rw [hg] at hag wan
    exact wan rfl hag
  | some g =>
    rw [hg, zg, zu, if_neg (by rw [hsg g hg]; decide), zu] at hag
    rw [hg] at wan unw
    split at hag
    · rename_i h; exact wan h hag
    · rename_i h; exact unw (by simpa using h) hag
end
end
section
variable [Unk]
section
variable {E:Env} (hE:jU E)
include hE
omit hE in
theorem Lag.both {N:Nat}{fr:Fr}{ops:List Oper} (hone:yo ops=true) {Dc:Nat→Prop}{Da:Nat}{T:Tr zd}{H H1:Heap}{β β1:Inj}{w w1:World}{a:Act} (hL:Lag E N fr ops Dc Da T H β w a.tmps)
  {m:OpM} (hm:m∈qn E ops) (hb:bit Da m.i=false) (hpre:∀ e∈m.o.after.toList,Region.binds .any e=true→Dc e.on) (hpreA:Yc m.pre Da=true) {v:zd} (hv:WF β1 v) (hR:Rel E.P β1 H1 w1)
  (hX:Ext β H w β1 H1 w1) (hlt:∀ d,m.o.dst=some d→d<fr.n) :
  Lag E N fr ops (fun j=>Dc j∨j=m.i) (Yx Da m.i) (VV T m.o v) H1 β1 w1 (a.put m.o.dst (zh β1 v)).tmps:=by
 obtain ⟨g1,g2,g3,g4⟩:=q7 hm
 have hle:=hX.le hL.rel.bnd
 have old:∀ {i o t},ops[i]? = some o→o.dst=some t→i≠m.i→tv (VV T m.o v) t=tv T t:=by
  intro i o t hi hd hne
  apply yy
  intro hd'
  exact hne (Wz hone i m.i o m.o t hi g1 hd hd')
 have hbit:∀ i,bit (Yx Da m.i) i=true→i≠m.i→bit Da i=true:=by
  intro i hi hne
  rw [QU,Bool.or_eq_true,decide_eq_true_eq]at hi
  rcases hi with hi | hi
  ·exact hi
  ·exact absurd hi.symm hne
 have hadd:∀ i,bit Da i=true→bit (Yx Da m.i) i=true:=fun i hi=>by rw [QU,hi];rfl
 have hself:bit (Yx Da m.i) m.i=true:=by rw [QU];simp
 refine ⟨hR,hL.glob.ext hL.rel.bnd hX,by rw [cS];exact hL.size,?_,?_,KL hL.closed g1 hpre,?_,?_,Nat.le_trans hL.nn hX.next,?_,?_,UW g1 (by rw [← g3];exact hpreA) hL.order⟩
 ·intro t
  by_cases hd:m.o.dst=some t
  ·left
   rw [yV hd]
   refine .inr ⟨hv,Xm hd ?_⟩
   rw [hL.size]
   exact hlt t hd
  ·rw [mb hd,yy hd]
   rcases hL.tmp t with h | ⟨i,o,h1,h2,h3,h4⟩
   ·exact .inl (h.mono hle)
   ·refine .inr ⟨i,o,h1,h2,hadd i h3,?_⟩
    rintro (h | rfl)
    ·exact h4 h
    ·rw [hb]at h3;cases h3
 ·rintro i (h | rfl)
  ·exact hadd i (hL.sub i h)
  ·exact hself
 ·intro m' hm' hk' hb'
  by_cases hi:m'.i=m.i
  ·exact .inr hi
  ·exact .inl (hL.heavy m' hm' hk' (hbit _ hb' hi))
 ·intro m' hm' hk' hb' hn d hd c hc
  have hi:m'.i≠m.i:=fun h=>hn (.inr h)
  obtain ⟨q1,_⟩:=q7 hm'
  rw [old q1 hd hi]at hc
  obtain ⟨c1,c2,c3⟩:=hL.rows m' hm' hk' (hbit _ hb' hi) (fun h=>hn (.inl h)) d hd c hc
  exact ⟨by rw [hX.old c c2];exact c1,Nat.lt_of_lt_of_le c2 hX.next,c3⟩
 ·intro m1 hm1 m2 hm2 k1 k2 b1 b2 n1 n2 hne d1 d2 e1 e2 c hc
  have h1:m1.i≠m.i:=fun h=>n1 (.inr h)
  have h2:m2.i≠m.i:=fun h=>n2 (.inr h)
  obtain ⟨q1,_⟩:=q7 hm1
  obtain ⟨q2,_⟩:=q7 hm2
  rw [old q1 e1 h1]at hc
  rw [old q2 e2 h2]
  exact hL.apart m1 hm1 m2 hm2 k1 k2 (hbit _ b1 h1) (hbit _ b2 h2) (fun h=>n1 (.inl h)) (fun h=>n2 (.inl h)) hne d1 d2 e1 e2 c hc
 ·intro i o d hi hbi hd
  by_cases he:i=m.i
  ·subst he
   rw [g1]at hi
   cases hi
   exact hlt d hd
  ·exact hL.lt i o d hi (hbit _ hbi he) hd
omit hE in
theorem Lag.nJ {rec:Rec} (hO:Xs E rec) {N:Nat}{fr:Fr}{ops:Array Oper} (hone:yo ops.toList=true) {Dc:Nat→Prop}{Da:Nat}{T:Tr zd}{H:Heap}{β:Inj}{w:World}{a:Act} (hL:Lag E N fr ops.toList Dc Da T H β w a.tmps)
  {m:OpM} (hm:m∈qn E ops.toList) (hb:bit Da m.i=false) (hpre:∀ e∈m.o.after.toList,Region.binds .any e=true→Dc e.on) (hpreA:Yc m.pre Da=true)
  {K:cB}{r:qQ} (he:Vc E rec fr.n ops.toList m.o K T H=r) (hr:r≠.fail) {β0:Inj}{H0:Heap}{w0:World} (hX0:Ext β0 H0 w0 β H w) (b:Frame) (rest:List Nat) (k:List Item) (cs:List Frame) :
  ∃ T' H' β' w' a',K T' H'=r∧Lag E N fr ops.toList (fun j=>Dc j∨j=m.i) (Yx Da m.i) T' H' β' w' a'.tmps∧Ext β0 H0 w0 β' H' w'∧a'.defers=a.defers ∧
   Steps E.P (lone (b.atR a (.inRegion ops (m.i::rest)::k)) cs w) (lone (b.atR a' (.inRegion ops rest::k)) cs w'):=by
 obtain ⟨g1,_⟩:=q7 hm
 have ho:ops[m.i]? = some m.o:=by rw [← Array.getElem?_toList];exact g1
 have hw:=hL.wanted g1 hpre (iz he hr)
 obtain ⟨v,H1,hK,hlt,hc⟩:=Yw he hr
 rcases hc with ⟨hf,hx⟩ | ⟨hf,rfl,rfl⟩
 ·obtain ⟨x,w1,⟨β1,rfl,r1,r2,r3⟩,hst⟩:=(hO β H w T m.o a.eval v H1 hL.rel hL.glob (hL.operands g1 hpre) hx).steps (b:=b) (rest:=rest) (k:=k) (cs:=cs) ho (hw.trans hf) (Wi hx)
  exact ⟨VV T m.o v,H1,β1,w1,_,hK,hL.both hone hm hb hpre hpreA r1 r2 r3 hlt,hX0.trans r3,put_defers _ _ _,hst⟩
 ·have hstep:=stepR_op_skip (P:=E.P) (b:=b) (a:=a) (k:=k) (cs:=cs) (w:=w) (ops:=ops) (i:=m.i) (rest:=rest) (by rw [ho];simp only [Option.map_some,Option.getD_some];rw [hw];exact hf)
  rw [ho]at hstep
  simp only [Option.bind_some]at hstep
  have hl:=hL.both hone hm hb hpre hpreA (v:=qN) (by simp) hL.rel (.refl _ _ _ hL.rel.bnd) hlt
  rw [QR]at hl
  exact ⟨VV T m.o qN,H1,β,w,_,hK,hl,hX0,put_defers _ _ _,.one hstep⟩
omit hE in
theorem Ext.aX {β0 β:Inj}{H0 H H':Heap}{w0 w:World} (hb:100≤H.next) (h:Ext β0 H0 w0 β H w) (hH:H'=H∨∃ b,H'=⟨H.blk.set H.next b,H.next+1⟩):Ext β0 H0 w0 β H' w:=by
 rcases hH with rfl | ⟨b,rfl⟩
 ·exact h
 ·have hn:=h.next
  have hget:∀ id,id<H0.next→(H.blk.set H.next b).get id=H.blk.get id:=by
   intro id hid
   rw [Tr.zR,if_neg (by omega)]
  have hget60:∀ id,id<100→(H.blk.set H.next b).get id=H.blk.get id:=by
   intro id hid
   rw [Tr.zR,if_neg (by omega)]
  exact ⟨h.old,Nat.le_succ_of_le hn,fun id hid e=>(hget id hid).trans (h.apart id hid e),fun id c hid e=>h.gone id c hid ((hget id hid).symm.trans e),(fun id hid=>(hget60 id hid).trans (h.ro id hid)),h.new,h.frame,h.size,h.tape,h.os,h.output⟩
omit hE in
theorem cX {rec:Rec}{N:Nat}{fr:Fr}{ops:List Oper} (hone:yo ops=true) {Dc:Nat→Prop}{β:Inj}{w:World}{arr:Array Value}{K:DrF}{r:qQ} (hr:r≠.fail) {β0:Inj}{H0:Heap}{w0:World} :
  ∀ (l:List OpM),(∀ m∈l,m∈qn E ops)→∀ (Da:Nat) (T:Tr zd) (H:Heap),Wv E rec fr.n ops K l Da T H=r→Lag E N fr ops Dc Da T H β w arr→Ext β0 H0 w0 β H w →
   ∃ Da' T' H',K Da' T' H'=r∧Lag E N fr ops Dc Da' T' H' β w arr∧Ext β0 H0 w0 β H' w:=by
 intro l
 induction l with
 | nil=>intro _ Da T H h hL hX;exact ⟨Da,T,H,h,hL,hX⟩
 | cons m l ih=>
  intro hml Da T H h hL hX
  have e0:Wv E rec fr.n ops K (m::l) Da T H=ifB (bit Da m.i) (Wv E rec fr.n ops K l Da T H) (ifB (zH (kU (isK 2 m)) (Yc m.pre Da)) (Vc E rec fr.n ops m.o (fun T H=>Wv E rec fr.n ops K l (Yx Da m.i) T H) T H) (Wv E rec fr.n ops K l Da T H)):=rfl
  rw [e0,zu]at h
  have hml':∀ m∈l,m∈qn E ops:=fun m' hm'=>hml m' (by simp [hm'])
  split at h
  ·exact ih hml' Da T H h hL hX
  ·rename_i hb
   rw [zu]at h
   split at h
   ·rename_i hc
    rw [zB,Bool.and_eq_true,qY]at hc
    obtain ⟨hk,hp⟩:=hc
    have hm:=hml m (by simp)
    have hk:m.kind≠2:=by
     intro hk2
     unfold isK at hk
     rw [hk2]at hk
     cases hk
    obtain ⟨v,H1,hK,hlt,hx⟩:=Yw h hr
    have hx':(aop m.o.op E rec T H=some (v,H1))∨(v=qN∧H1=H):=by
     rcases hx with ⟨_,hx⟩ | ⟨_,hx⟩
     ·exact .inl hx
     ·exact .inr hx
    have hH:H1=H∨∃ b,H1=⟨H.blk.set H.next b,H.next+1⟩:=by
     rcases hx' with hx | ⟨_,rfl⟩
     ·rcases (JQ hm hk).1 with ⟨_,h0⟩ | ⟨_,h1,_⟩
      ·exact .inl (YU h0 hx).1
      ·obtain ⟨⟨t,n,c,e⟩,_⟩:=Jr h1 hx
       exact .inr ⟨_,e⟩
     ·exact .inl rfl
    exact ih hml' (Yx Da m.i) (VV T m.o v) H1 hK (hL.vZ hone hm hk (by simpa using hb) hp hlt hx') (hX.aX hL.rel.base hH)
   ·exact ih hml' Da T H h hL hX
omit hE in
theorem eK {ops:List Oper}{HA D:Nat}{T:Tr zd}{H:Heap}:∀ {l:List OpM},KX E ops HA D T H l=true→∀ m∈l,m.kind≠2→bit D m.i=true→bit HA m.i=false→again E ops T H (isK 1 m) m.o=true:=by
 intro l
 induction l with
 | nil=>intro _ m h;cases h
 | cons x l ih=>
  intro h m hm hk hb ha
  have e0:KX E ops HA D T H (x::l)=ifB (zH (kU (isK 2 x)) (zH (bit D x.i) (kU (bit HA x.i)))) (ifB (again E ops T H (isK 1 x) x.o) (KX E ops HA D T H l) false) (KX E ops HA D T H l):=rfl
  rw [e0,zu]at h
  rcases List.mem_cons.1 hm with rfl | hm
  ·rw [if_pos]at h
   ·rw [zu]at h
    split at h
    ·assumption
    ·cases h
   ·have hk2:isK 2 m=false:=by
     unfold isK
     rw [zG]
     simpa using hk
    rw [hk2,hb,ha];rfl
  ·split at h
   ·rw [zu]at h
    split at h
    ·exact ih h m hm hk hb ha
    ·cases h
   ·exact ih h m hm hk hb ha
omit hE in
theorem QN {D:Nat}:∀ {l:List OpM}{m:OpM},m∈enabled D l↔m∈l∧bit D m.i=false∧Yc m.pre D=true:=by
 intro l
 induction l with
 | nil=>intro m;simp [enabled]
 | cons x l ih=>
  intro m
  have e0:enabled D (x::l)=ifB (zH (kU (bit D x.i)) (Yc x.pre D)) (x::enabled D l) (enabled D l):=rfl
  rw [e0,zu,zB,qY]
  by_cases hc:(!bit D x.i&&Yc x.pre D)=true
  ·rw [if_pos hc,List.mem_cons,List.mem_cons,ih]
   rw [Bool.and_eq_true]at hc
   constructor
   ·rintro (rfl | ⟨h1,h2⟩)
    ·exact ⟨.inl rfl,by simpa using hc.1,hc.2⟩
    ·exact ⟨.inr h1,h2⟩
   ·rintro ⟨rfl | h1,h2⟩
    ·exact .inl rfl
    ·exact .inr ⟨h1,h2⟩
  ·rw [if_neg hc,List.mem_cons,ih]
   constructor
   ·rintro ⟨h1,h2⟩;exact ⟨.inr h1,h2⟩
   ·rintro ⟨rfl | h1,h2,h3⟩
    ·exact absurd (by rw [h2,h3];rfl) hc
    ·exact ⟨h1,h2,h3⟩
structure QY (ops:Array Oper) (Dc:Nat→Prop) (listed:Array Bool):Prop where
 size:listed.size=ops.size
 iff:∀ i,listed[i]? = some true↔Dc i
omit hE in
theorem QY.lt {ops:Array Oper}{Dc:Nat→Prop}{listed:Array Bool} (h:QY ops Dc listed) {i:Nat} (hi:Dc i):i<ops.size:=by
 have:=(h.iff i).2 hi
 have:=(Array.getElem?_eq_some_iff.1 this).1
 rw [h.size]at this
 exact this
omit hE in
theorem QY.add {ops:Array Oper}{Dc:Nat→Prop}{listed:Array Bool} (h:QY ops Dc listed) {i:Nat} (hi:i<ops.size):QY ops (fun j=>Dc j∨j=i) (listed.setIfInBounds i true) where
 size:=by simpa using h.size
 iff:=fun j=>by
  rw [Array.getElem?_setIfInBounds]
  by_cases hj:i=j
  ·subst hj
   rw [if_pos rfl,if_pos (by rw [h.size];exact hi)]
   simp
  ·rw [if_neg hj,h.iff]
   constructor
   ·exact .inl
   ·rintro (h' | rfl)
    ·exact h'
    ·exact absurd rfl hj
omit hE in
theorem Ye {ops:Array Oper}{Dc:Nat→Prop}{listed:Array Bool} (h:QY ops Dc listed) {i:Nat}:i∈Region.ready .any ops listed↔¬ Dc i∧∃ o,ops[i]? = some o∧∀ e∈o.after.toList,Region.binds .any e=true→Dc e.on:=by
 unfold Region.ready
 rw [List.mem_filter,List.mem_range,Bool.and_eq_true]
 have hg:∀ j,listed.getD j false=true↔Dc j:=by
  intro j
  rw [← h.iff,Array.getD_eq_getD_getElem?]
  cases listed[j]? <;> simp
 constructor
 ·rintro ⟨h1,h2,h3⟩
  have ho:ops[i]? = some ops[i]:=Array.getElem?_eq_getElem h1
  rw [ho]at h3
  simp only [Option.map_some,Option.getD_some]at h3
  refine ⟨fun hd=>?_,ops[i],ho,fun e he hb=>?_⟩
  ·rw [Array.getD_eq_getD_getElem?,(h.iff i).2 hd]at h2
   simp at h2
  ·rw [← Array.all_toList]at h3
   have:=List.all_eq_true.1 h3 e he
   rw [hb]at this
   exact (hg _).1 (by simpa using this)
 ·rintro ⟨h1,o,ho,h2⟩
  have hlt:=(Array.getElem?_eq_some_iff.1 ho).1
  refine ⟨hlt,?_,?_⟩
  ·rw [Array.getD_eq_getD_getElem?]
   have:listed[i]?≠some true:=fun e=>h1 ((h.iff i).1 e)
   obtain ⟨bv,hs⟩:∃ bv,listed[i]? = some bv:=⟨_,Array.getElem?_eq_getElem (by rw [h.size];exact hlt)⟩
   rw [hs]at this ⊢
   simp at this ⊢
   exact this
  ·rw [ho]
   simp only [Option.map_some,Option.getD_some]
   rw [← Array.all_toList,List.all_eq_true]
   intro e he
   by_cases hb:Region.binds .any e=true
   ·rw [(hg _).2 (h2 e he hb)];simp
   ·simp [hb]
omit hE in
theorem nT {Dc:Nat→Prop}:∀ (L:List Nat),(∃ j∈L,¬ Dc j)→∃ L1 j L2,L=L1++j::L2∧¬ Dc j∧∀ i∈L1,Dc i:=by
 intro L
 induction L with
 | nil=>rintro ⟨j,h,_⟩;cases h
 | cons x L ih=>
  rintro ⟨j,h1,h2⟩
  by_cases hx:Dc x
  ·rcases List.mem_cons.1 h1 with rfl | h1
   ·exact absurd hx h2
   ·obtain ⟨L1,i,L2,e,a1,a2⟩:=ih ⟨j,h1,h2⟩
    refine ⟨x::L1,i,L2,by rw [e];rfl,a1,?_⟩
    intro y hy
    rcases List.mem_cons.1 hy with rfl | hy
    ·exact hx
    ·exact a2 y hy
  ·exact ⟨[],x,L,rfl,hx,by simp⟩
omit hE in
theorem fu {rec:Rec}{N:Nat}{fr:Fr}{ops:Array Oper}{Dc:Nat→Prop}{Da:Nat}{T:Tr zd}{H:Heap}{β:Inj}{w:World}{arr:Array Value} (hL:Lag E N fr ops.toList Dc Da T H β w arr)
  {listed:Array Bool} (hl:QY ops Dc listed) (hn:Region.ready .any ops listed=[]) {next:Nat→DrF}{HA:Nat}{r:qQ} (h:Qc next E rec fr.n ops.toList (qn E ops.toList) HA Da T H=r) (hr:r≠.fail) :
  ∀ i,i<ops.size→Dc i:=by
 obtain ⟨L,hL1,hL2⟩:=hL.order
 by_cases hp:∃ j∈L,¬ Dc j
 ·exfalso
  obtain ⟨L1,j,L2,e,a1,a2⟩:=nT L hp
  obtain ⟨o,ho,hpre⟩:=hL2 L1 j L2 e
  have:j∈Region.ready .any ops listed:=(Ye hl).2 ⟨a1,o,by rw [← Array.getElem?_toList];exact ho,fun e he hb=>a2 _ (hpre e he hb)⟩
  rw [hn]at this
  cases this
 ·have hall:∀ j,bit Da j=true→Dc j:=fun j hj=>Classical.byContradiction fun hd=>hp ⟨j,(hL1 j).1 hj,hd⟩
  unfold Qc at h
  rw [zu]at h
  split at h
  case isFalse=>exact absurd h.symm hr
  revert h
  cases hen:enabled Da (qn E ops.toList) with
  | nil=>
   intro h
   rw [bq,zu]at h
   split at h
   ·rename_i hf
    rw [jz]at hf
    intro i hi
    exact hall i (tn hf (by simpa using hi))
   ·exact absurd h.symm hr
  | cons m l=>
   intro _
   exfalso
   have hm:m∈enabled Da (qn E ops.toList):=by rw [hen];simp
   obtain ⟨h1,h2,h3⟩:=QN.1 hm
   obtain ⟨g1,_,g3,_⟩:=q7 h1
   have:m.i∈Region.ready .any ops listed:=(Ye hl).2 ⟨fun hd=>(by rw [hL.sub _ hd]at h2;cases h2),m.o,by rw [← Array.getElem?_toList];exact g1,fun e he hb=>
    hall _ (aL h3 (by rw [g3];exact (Vh _ _).2 ⟨e,he,hb,rfl⟩))⟩
   rw [hn]at this
   cases this
omit hE in
theorem Uz {rec:Rec}{N:Nat}{fr:Fr}{ops:Array Oper}{Dc:Nat→Prop}{Da:Nat}{T:Tr zd}{H:Heap}{β:Inj}{w:World}{arr:Array Value} (hL:Lag E N fr ops.toList Dc Da T H β w arr)
  (hall:∀ i,i<ops.size→Dc i) {next:Nat→DrF}{HA:Nat}{r:qQ} (h:Qc next E rec fr.n ops.toList (qn E ops.toList) HA Da T H=r) (hr:r≠.fail) :
  r = .nrm T H∧jV β fr.n T arr:=by
 refine ⟨?_,hL.size,fun t=>?_⟩
 ·unfold Qc at h
  rw [zu]at h
  split at h
  case isFalse=>exact absurd h.symm hr
  have hen:enabled Da (qn E ops.toList)=[]:=by
   cases hen:enabled Da (qn E ops.toList) with
   | nil=>rfl
   | cons m l=>
    exfalso
    have hm:m∈enabled Da (qn E ops.toList):=by rw [hen];simp
    obtain ⟨h1,h2,h3⟩:=QN.1 hm
    obtain ⟨g1,_⟩:=q7 h1
    have hlt:=(List.getElem?_eq_some_iff.1 g1).1
    rw [hL.sub _ (hall _ (by simpa using hlt))]at h2
    cases h2
  rw [hen,bq,zu]at h
  split at h
  ·exact h.symm
  ·exact absurd h.symm hr
 ·rcases hL.tmp t with h | ⟨i,o,h1,_,_,h4⟩
  ·exact h
  ·have hlt:=(List.getElem?_eq_some_iff.1 h1).1
   exact absurd (hall i (by simpa using hlt)) h4
theorem nX {rec:Rec} (hO:Xs E rec) {N:Nat}{fr:Fr}{ops:Array Oper} (hone:yo ops.toList=true) {β0:Inj}{H0:Heap}{w0:World} (hN:H0.next=N) (b:Frame) (k:List Item) (cs:List Frame) {r:qQ} (hr:r≠.fail) :
  ∀ (fc t:Nat) (listed:Array Bool) (Dc:Nat→Prop) (Da:Nat) (T:Tr zd) (H:Heap) (β:Inj) (w:World) (a:Act) (f HA:Nat),
   Lag E N fr ops.toList Dc Da T H β w a.tmps→QY ops Dc listed→listed.toList.count false≤fc→(∀ j,bit HA j=true→Dc j)→Ext β0 H0 w0 β H w →
   Qc (uZ E rec fr.n ops.toList (qn E ops.toList) f) E rec fr.n ops.toList (qn E ops.toList) HA Da T H=r →
   ∃ β' w' a' T' H',r = .nrm T' H'∧Rel E.P β' H' w'∧Ext β0 H0 w0 β' H' w'∧jV β' fr.n T' a'.tmps∧a'.defers=a.defers ∧
    Steps E.P (lone (b.atR a (.inRegion ops (Region.linearise.go .any ops fc t listed [])::k)) cs w) (lone (b.atR a' k) cs w'):=by
 intro fc
 induction fc with
 | zero=>
  intro t listed Dc Da T H β w a f HA hL hl hcnt hHA hX h
  have hall:∀ i,i<ops.size→Dc i:=by
   intro i hi
   obtain ⟨bv,hs⟩:∃ bv,listed[i]? = some bv:=⟨_,Array.getElem?_eq_getElem (by rw [hl.size];exact hi)⟩
   rw [← hl.iff,hs]
   have hz:listed.toList.count false=0:=by omega
   rw [List.count_eq_zero]at hz
   cases bv with
   | true=>rfl
   | false=>
    exfalso
    apply hz
    rw [← Array.getElem?_toList]at hs
    exact List.mem_of_getElem? hs
  obtain ⟨e,hT⟩:=Uz hL hall h hr
  exact ⟨β,w,a,T,H,e,hL.rel,hX,hT,rfl,.one stepR_region_end⟩
 | succ fc ih=>
  intro t listed Dc Da T H β w a f HA hL hl hcnt hHA hX h
  have hgo:Region.linearise.go .any ops (fc+1) t listed []=match (Region.ready .any ops listed)[t % (Region.ready .any ops listed).length]? with
   | some i=>Region.linearise.go .any ops fc (t / (Region.ready .any ops listed).length) (listed.setIfInBounds i true) [i]
   | none=>[]:=rfl
  rw [hgo]
  cases hi:(Region.ready .any ops listed)[t % (Region.ready .any ops listed).length]? with
  | none=>
   have hnil:Region.ready .any ops listed=[]:=by
    cases hrd:Region.ready .any ops listed with
    | nil=>rfl
    | cons x xs=>
     rw [hrd]at hi
     have hlt:t % (x::xs).length<(x::xs).length:=Nat.mod_lt _ (by simp)
     rw [List.getElem?_eq_none_iff]at hi
     omega
   obtain ⟨e,hT⟩:=Uz hL (fu hL hl hnil h hr) h hr
   exact ⟨β,w,a,T,H,e,hL.rel,hX,hT,rfl,.one stepR_region_end⟩
  | some i=>
   simp only []
   rw [linearise_go_acc,List.reverse_singleton,List.singleton_append]
   obtain ⟨hnd,o,ho,hpre⟩:=(Ye hl).1 (List.mem_of_getElem? hi)
   have hlt:=(Array.getElem?_eq_some_iff.1 ho).1
   have ho':ops.toList[i]? = some o:=by rw [Array.getElem?_toList];exact ho
   obtain ⟨m,hm,rfl,rfl⟩:=dC E ho'
   have hl':=hl.add hlt
   have hcnt':(listed.setIfInBounds m.i true).toList.count false≤fc:=by
    rw [Array.toList_setIfInBounds]
    have hlen:m.i<listed.toList.length:=by simpa [hl.size] using hlt
    rw [List.count_set hlen]
    have hf:listed.toList[m.i]=false:=by
     have hs:listed.toList[m.i]? = some listed.toList[m.i]:=List.getElem?_eq_getElem hlen
     cases hv:listed.toList[m.i] with
     | true=>rw [hv,Array.getElem?_toList]at hs;exact absurd ((hl.iff m.i).1 hs) hnd
     | false=>rfl
    have hpos:1≤listed.toList.count false:=by
     rw [Nat.one_le_iff_ne_zero,Ne,List.count_eq_zero]
     intro hz
     apply hz
     rw [← hf]
     exact List.getElem_mem hlen
    rw [hf,if_pos (by rfl),if_neg (by decide)]
    omega
   cases hb:bit Da m.i with
   | true=>
    have hk:m.kind≠2:=fun hk=>hnd (hL.heavy m hm hk hb)
    have hag:again E ops.toList T H (isK 1 m) m.o=true:=by
     unfold Qc at h
     rw [zu]at h
     split at h
     case isFalse=>exact absurd h.symm hr
     rename_i hag
     refine eK hag m hm hk hb ?_
     cases hh:bit HA m.i with
     | false=>rfl
     | true=>exact absurd (hHA _ hh) hnd
    obtain ⟨β',w',a',q1,q2,q3,q4⟩:=hL.step hE hone hm hk hb hnd hpre hag hX hN b (Region.linearise.go .any ops fc (t / (Region.ready .any ops listed).length) (listed.setIfInBounds m.i true) []) k cs
    obtain ⟨β2,w2,a2,T2,H2,e1,e2,e3,e4,e5,e6⟩:=ih (t / (Region.ready .any ops listed).length) (listed.setIfInBounds m.i true) _ Da T H β' w' a' f HA q1 hl' hcnt' (fun j hj=>.inl (hHA j hj)) q2 h
    exact ⟨β2,w2,a2,T2,H2,e1,e2,e3,e4,e5.trans q3,q4.trans e6⟩
   | false=>
    obtain ⟨g1,g2,g3,g4⟩:=q7 hm
    have hpreA:Yc m.pre Da=true:=vl fun j hj=>by
     rw [g3]at hj
     obtain ⟨e,he,hbd,rfl⟩:=(Vh _ _).1 hj
     exact hL.sub _ (hpre e he hbd)
    have hme:m∈enabled Da (qn E ops.toList):=QN.2 ⟨hm,hb,hpreA⟩
    have h0:=h
    unfold Qc at h0
    rw [zu]at h0
    split at h0
    case isFalse=>exact absurd h0.symm hr
    revert h0 hme
    cases hen:enabled Da (qn E ops.toList) with
    | nil=>intro hme;cases hme
    | cons x l=>
     intro hme h0
     cases l with
     | cons y l=>exact absurd h0.symm hr
     | nil=>
      rw [List.mem_singleton]at hme
      subst hme
      simp only [kZ,bq,zu]at h0
      split at h0
      case isFalse=>exact absurd h0.symm hr
      simp only [z7,sN]at h0
      cases f with
      | zero=>
       obtain ⟨v,H1,hK,_⟩:=Yw h0 hr
       exact absurd hK.symm hr
      | succ f=>
       obtain ⟨T1,H1,β1,w1,a1,hK,q1,q2,q3,q4⟩:=hL.nJ hO hone hm hb hpre hpreA h0 hr hX b (Region.linearise.go .any ops fc (t / (Region.ready .any ops listed).length) (listed.setIfInBounds m.i true) []) k cs
       have hK:Wv E rec fr.n ops.toList (Qc (uZ E rec fr.n ops.toList (qn E ops.toList) f) E rec fr.n ops.toList (qn E ops.toList) (Nat.lor HA m.anc)) (qn E ops.toList) (Yx Da m.i) T1 H1=r:=hK
       obtain ⟨Da2,T2,H2,hK2,hL2,hX2⟩:=cX hone hr (qn E ops.toList) (fun _ h=>h) _ _ _ hK q1 q2
       have hHA':∀ j,bit (Nat.lor HA m.anc) j=true→Dc j∨j=m.i:=by
        intro j hj
        rw [bT,Bool.or_eq_true]at hj
        rcases hj with hj | hj
        ·exact .inl (hHA j hj)
        ·obtain ⟨o',ho2,hall⟩:=(JZ ops.toList).1 m.i m.anc j g2 hj
         rw [g1]at ho2
         cases ho2
         exact .inl (hall Dc hL.closed hpre)
       obtain ⟨β2,w2,a2,T3,H3,e1,e2,e3,e4,e5,e6⟩:=ih (t / (Region.ready .any ops listed).length) (listed.setIfInBounds m.i true) _ Da2 T2 H2 β1 w1 a1 f (Nat.lor HA m.anc) hL2 hl' hcnt' hHA' hX2 hK2
       exact ⟨β2,w2,a2,T3,H3,e1,e2,e3,e4,e5.trans q3,q4.trans e6⟩
theorem lU (hMix:E.P.follows .mixedOrders=true) {rec:Rec} (hO:Xs E rec):iK E rec:=by
 intro fr id ops T H β w b a k cs B it hit hA
 obtain rfl:it = .code (.region id ops true):=by rcases hit with h | ⟨d,h,_⟩;exact h;cases h
 show Out E.P fr B β H w b k cs _ (eO E rec fr.n ops.toList T H)
 generalize hres:eO E rec fr.n ops.toList T H=r
 by_cases hfail:r = .fail
 ·rw [hfail];trivial
 ·unfold eO at hres
  rw [zu]at hres
  split at hres
  case isFalse=>exact absurd hres.symm hfail
  rename_i hone
  have hres:Wv E rec fr.n ops.toList (Qc (uZ E rec fr.n ops.toList (qn E ops.toList) (qT ops.toList 0)) E rec fr.n ops.toList (qn E ops.toList) 0) (qn E ops.toList) 0 T H=r:=hres
  have hAl:=kN w
  have hX0:Ext β H w β H { w with drawn:=w.drawn+1 }:=Ext.alike hA.rel.bnd hAl
  have hL0:Lag E H.next fr ops.toList (fun _=>False) 0 T H β { w with drawn:=w.drawn+1 } a.tmps:=
   ⟨hA.rel.alike hAl,hA.glob,hA.tmp.size,fun t=>.inl (hA.tmp.tmp t),fun i h=>h.elim,fun i o _ h=>h.elim,fun m _ _ h=>(by rw [yb]at h;cases h),fun m _ _ h=>(by rw [yb]at h;cases h),Nat.le_refl _,
    fun m _ m' _ _ _ h=>(by rw [yb]at h;cases h),fun i o d _ h=>(by rw [yb]at h;cases h),⟨[],fun i=>(by rw [yb];simp),fun L1 i L2 e=>(by simp at e)⟩⟩
  obtain ⟨Da,T1,H1,hK,hL1,hX1⟩:=cX hone hfail (qn E ops.toList) (fun _ h=>h) _ _ _ hres hL0 hX0
  have hl0:QY ops (fun _=>False) (Array.replicate ops.size false):=⟨by simp,fun i=>by
   rw [Array.getElem?_replicate]
   split<;>simp⟩
  obtain ⟨β',w',a',T',H',e1,e2,e3,e4,e5,e6⟩:=nX hE hO hone rfl b k cs hfail ops.size (w.tape w.drawn (.order b.fn id)) (Array.replicate ops.size false) (fun _=>False) Da T1 H1 β { w with drawn:=w.drawn+1 } a
   (qT ops.toList 0) 0 hL1 hl0 (by simp) (fun j h=>by rw [yb]at h;cases h) hX1 hK
  subst e1
  refine ⟨β',w',a',⟨e2,e3,e4,by rw [e5];exact hA.marks.ext e3⟩,.head stepR_region_draw ?_⟩
  rw [hMix]
  exact e6
end
end
section
variable [Unk]
theorem Res.mono {P:Program}{m:Sem Next}{w:World}{R R':Value→World→Prop} (h:Res P m w R) (hr:∀ x w',R x w'→R' x w'):Res P m w R':=by
 obtain ⟨nx,w1,h1,h2⟩:=h
 refine ⟨nx,w1,h1,?_⟩
 cases nx with
 | value v=>exact hr _ _ h2
 | skip=>exact hr _ _ h2
 | enter f args=>exact Calls.mono h2 fun e w2 ⟨v,e1,e2⟩=>⟨v,e1,hr _ _ e2⟩
 | round l f tmps as bo=>
  intro c cs
  obtain ⟨v,w2,r,s⟩:=h2 c cs
  exact ⟨v,w2,hr _ _ r,s⟩
 | _=>exact h2.elim
theorem fP {β β1 β':Inj}{m:Nat} (h1:∀ id,id<m→β1 id=β id) (h2:∀ id,id<m→β' id=β id) {v:zd} (ho:bf m v=true) (hw:WF β1 v):WF β' v∧zh β' v=zh β1 v:=by
 cases v<;>try (cases ho;done)
 case bool b=>exact ⟨trivial,rfl⟩
 case int k n=>exact ⟨trivial,rfl⟩
 case str s=>exact ⟨hw,rfl⟩
 case nilp=>exact ⟨trivial,rfl⟩
 case nilslice=>exact ⟨trivial,rfl⟩
 case nilmap=>exact ⟨trivial,rfl⟩
 case nilfn=>exact ⟨trivial,rfl⟩
 case niliface=>exact ⟨trivial,rfl⟩
 case ptr b o=>
  have hb:Nat.blt b m=true:=ho
  rw [qo,decide_eq_true_eq]at hb
  have e:β' b=β1 b:=by rw [h1 b hb,h2 b hb]
  exact ⟨by simp only [WF]at hw ⊢;rw [e];exact hw,by simp [zh,Inj.addr,Inj.blk,Inj.sh,e]⟩
 case slice b o l c ex=>
  have hb:zH ex (Nat.blt b m)=true:=ho
  rw [zB,Bool.and_eq_true,qo,decide_eq_true_eq]at hb
  have e:β' b=β1 b:=by rw [h1 b hb.2,h2 b hb.2]
  exact ⟨by simp only [WF]at hw ⊢;rw [e];exact hw,by simp [zh,Inj.addr,Inj.blk,Inj.sh,Inj.ext,e]⟩
 case sym b=>
  have hb:Nat.blt b m=true:=ho
  rw [qo,decide_eq_true_eq]at hb
  have e:β' b=β1 b:=by rw [h1 b hb,h2 b hb]
  exact ⟨by simp only [WF]at hw ⊢;rw [e];exact hw,by simp [zh,e]⟩
 case map b=>
  have hb:Nat.blt b m=true:=ho
  rw [qo,decide_eq_true_eq]at hb
  have e:β' b=β1 b:=by rw [h1 b hb,h2 b hb]
  exact ⟨by simp only [WF]at hw ⊢;rw [e];exact hw,by simp [zh,Inj.blk,e]⟩
section
variable {E:Env} (hE:jU E)
include hE
omit hE in
theorem Wy {sz:Nat}{t:TypeId}{r:R}{p:Nat×List zd} (h:V5 sz t r=some p) :
  ∃ (b cap:Nat) (ex:Bool) (H1:Heap) (q:Row),100≤b∧r=some (.slice b 0 p.1 cap ex,H1)∧H1.row b=some q∧q.t=t∧(if ex then cap*sz≤q.n else cap*sz=q.n)∧p.1≤cap∧Tr.bC (p.1*sz) q.c 0=some p.2:=by
 replace h:=zf h
 obtain ⟨r1,rfl,h⟩:=h
 replace h:=zf h
 obtain ⟨s,hs,h⟩:=h
 replace h:=zf h
 obtain ⟨q,hq,h⟩:=h
 replace h:=zl h
 obtain ⟨hc,h⟩:=h
 replace h:=zf h
 obtain ⟨l,hl,h⟩:=h
 cases h
 simp only [zB,Bool.and_eq_true,zG,beq_iff_eq,zN,decide_eq_true_eq]at hc
 obtain ⟨c0,c1,c2,c3,c4⟩:=hc
 have hv:=jo hs
 obtain ⟨v,H1⟩:=r1
 simp only at hv hq
 subst hv
 refine ⟨s.b,s.cap,s.ex,H1,q,c0,by rw [c1],hq,c2,?_,c4,hl⟩
 rw [zu]at c3
 cases hx:s.ex with
 | true=>rw [hx]at c3;simpa [zN] using c3
 | false=>rw [hx]at c3;simpa [zG] using c3
theorem lJ {β βr β1:Inj}{H Hr H1:Heap}{w w1:World}{sb vb:Nat}{t sz:Nat}{b cap n:Nat}{ex:Bool}{q:Row}{l:List zd} (hR:Rel E.P β H w) (hsb:(β sb).isSome) (hvb:(β vb).isSome)
  {bs bv:zJ} (hHs:H.blk.get sb=some bs) (hHv:H.blk.get vb=some bv)
  (hs60:100≤sb) (hv60:100≤vb) (hold:∀ id,id<H.next→βr id=β id) (hb60:100≤b) (hrange:∀ c,Range βr Hr c→c=β.blk sb∨c=β.blk vb) (hnx:H.next≤Hr.next) (hR1:Rel E.P β1 H1 w1) (hX:Ext βr Hr w β1 H1 w1) (hts:jC E.P t=sz)
  (hv:WF β1 (.slice b 0 n cap ex)) (hq:H1.row b=some q) (hqt:q.t=t) (hcap:if ex then cap*sz≤q.n else cap*sz=q.n) (hn:n≤cap) (hl:Tr.bC (n*sz) q.c 0=some l) (hoc:ZF (bf H.next) l=true) :
  RR E.P β H w (.slice H.next 0 n n false) ⟨((H.blk.del sb).del vb).set H.next (.cells t (n*sz) (Tr.ofList l)),H.next+1⟩ (zh β1 (.slice b 0 n cap ex)) w1:=by
 have _:=hE
 obtain ⟨ys,hys⟩:=Option.isSome_iff_exists.1 hsb
 obtain ⟨yv,hyv⟩:=Option.isSome_iff_exists.1 hvb
 have hbs:β.blk sb=ys.1:=by simp [Inj.blk,hys]
 have hbv:β.blk vb=yv.1:=by simp [Inj.blk,hyv]
 obtain ⟨y,hy⟩:=Option.isSome_iff_exists.1 hv.1
 obtain ⟨arr,fz,a1,a2⟩:=hR1.rowAt hq hv.1
 have hb1:β1.blk b=y.1:=by simp [Inj.blk,hy]
 have hs1:β1.sh b=y.2.1:=by simp [Inj.sh,hy]
 have he1:β1.ext b=y.2.2:=by simp [Inj.ext,hy]
 rw [hb1]at a1
 rw [hs1,he1]at a2
 rw [hqt]at a1 a2
 let C:=if ex then cap else cap+y.2.2
 have hC:n≤C:=by
  show n≤if ex then cap else cap+y.2.2
  split<;>omega
 let x:Nat×Nat×Nat:=(y.1,y.2.1,C-n)
 have hf:=hR.fresh (Nat.le_refl H.next)
 have holdr:∀ id,id<H.next→β1 id=β id:=fun id hid=>by rw [hX.old id (Nat.lt_of_lt_of_le hid hnx)];exact hold id hid
 have holdx:∀ id,id<H.next→(β.put H.next x) id=β id:=fun id hid=>Inj.z8 _ _ (by omega)
 have hle:β.le (β.put H.next x):=Inj.j4 hf
 have hblk:w.heap.size≤y.1∨y.1=β.blk sb∨y.1=β.blk vb:=by
  obtain ⟨b0,hb0,_⟩:=QC hq
  rcases hX.pM ⟨b,_,y,hb60,hb0,hy,rfl⟩ with h | h
  ·exact .inl h
  ·exact .inr (hrange _ h)
 have hapart:∀ {id bl z},H.blk.get id=some bl→β id=some z→id≠sb→id≠vb→z.1≠y.1:=by
  intro id bl z h1 h2 n1 n2 e
  rcases hblk with h | h | h
  ·have:=(hR.blk id bl z h1 h2).lt
   omega
  ·exact n1 (hR.Ja (.inr hs60) h1 h2 hHs hys (by rw [e,h,hbs]))
  ·exact n2 (hR.Ja (.inr hv60) h1 h2 hHv hyv (by rw [e,h,hbv]))
 have hframe:∀ {id bl z},H.blk.get id=some bl→β id=some z→id≠sb→id≠vb→w1.heap[z.1]? = w.heap[z.1]?:=by
  intro id bl z h1 h2 n1 n2
  refine hX.frame _ (hR.blk id bl z h1 h2).lt fun hr=>?_
  rcases hrange _ hr with h | h
  ·exact n1 (hR.Ja (.inr hs60) h1 h2 hHs hys (by rw [h,hbs]))
  ·exact n2 (hR.Ja (.inr hv60) h1 h2 hHv hyv (by rw [h,hbv]))
 have aux:∀ {id bl},(((H.blk.del sb).del vb).set H.next (.cells t (n*sz) (Tr.ofList l))).get id=some bl→id≠H.next→id≠sb∧id≠vb∧H.blk.get id=some bl:=by
  intro id bl h hid
  rw [Tr.zR,if_neg (fun e=>hid e.symm),Tr.jn]at h
  split at h
  ·cases h
  ·rename_i n2
   rw [Tr.jn]at h
   split at h
   ·cases h
   ·rename_i n1
    exact ⟨fun e=>n1 e.symm,fun e=>n2 e.symm,h⟩
 have self:∀ {bl},(((H.blk.del sb).del vb).set H.next (.cells t (n*sz) (Tr.ofList l))).get H.next=some bl→bl = .cells t (n*sz) (Tr.ofList l):=by
  intro bl h
  rw [Tr.zR,if_pos rfl]at h
  cases h
  rfl
 have hput:∀ {id z},id≠H.next→β.put H.next x id=some z→β id=some z:=by
  intro id z hid h
  rw [Inj.z8 _ _ hid]at h
  exact h
 obtain ⟨l1,l2⟩:=Tr.kh _ _ _ _ hl
 have hrow:zZ E.P (β.put H.next x) (.cells t (n*sz) (Tr.ofList l)) x w1:=by
  refine ⟨arr,fz,a1,?_,?_,a2.thaw,a2.al⟩
  ·have h1:=a2.size
   rw [hts]at h1 ⊢
   show y.2.1+n*sz+(C-n)*sz≤arr.size
   have h2:(C-n)*sz=C*sz-n*sz:=Nat.sub_mul _ _ _
   have h3:n*sz≤C*sz:=Nat.mul_le_mul_right _ hC
   have h4:C*sz≤q.n+y.2.2*sz:=by
    show (if ex then cap else cap+y.2.2)*sz≤_
    cases ex with
    | true=>simp only [if_true]at hcap ⊢;omega
    | false=>
     simp only [Bool.false_eq_true,if_false]at hcap ⊢
     rw [Nat.add_mul];omega
   omega
  ·intro i v hvv
   rw [Tr.qV]at hvv
   have hlt:=(List.getElem?_eq_some_iff.1 hvv).1
   have hg:=l2 i (by rw [← l1];exact hlt)
   rw [Nat.zero_add,hvv]at hg
   obtain ⟨f1,f2⟩:=a2.cell i v hg
   rw [Ze,List.all_eq_true]at hoc
   obtain ⟨e1,e2⟩:=fP holdr holdx (hoc v (List.mem_of_getElem? hvv)) f1
   exact ⟨e1,by rw [e2];exact f2⟩
 refine ⟨β.put H.next x,?_,⟨by simp [Inj.zM],Nat.le_refl _⟩,⟨Nat.le_succ_of_le hR.base,?_,?_,?_,?_⟩,⟨fun id hid=>holdx id hid,Nat.le_succ _,?_,?_,?_,?_,?_,hX.size,hX.tape,hX.os,hX.output⟩⟩
 ·simp only [zh,Inj.addr,Inj.blk,Inj.sh,Inj.ext,Inj.zM,hy,Option.getD_some,Bool.false_eq_true,if_false]
  congr 1
  show (if ex=true then cap else cap+y.2.2)=n+(C-n)
  show C=_
  omega
 ·intro id bl z h1 h2
  by_cases hid:id=H.next
  ·subst hid
   rw [self h1]
   rw [Inj.zM]at h2
   cases h2
   exact hrow
  ·obtain ⟨n1,n2,h1'⟩:=aux h1 hid
   have h2':=hput hid h2
   exact ((hR.blk id bl z h1' h2').heap (hframe h1' h2' n1 n2)).mono hle
 ·intro i j bi bj zi zj h1 h2 h3 h4 e
  by_cases hi:i=H.next
  ·by_cases hj:j=H.next
   ·exact .inl (by rw [hi,hj])
   ·subst hi
    rw [Inj.zM]at h2
    cases h2
    obtain ⟨n1,n2,h3'⟩:=aux h3 hj
    exact absurd e.symm (hapart h3' (hput hj h4) n1 n2)
  ·obtain ⟨n1,n2,h1'⟩:=aux h1 hi
   by_cases hj:j=H.next
   ·subst hj
    rw [Inj.zM]at h4
    cases h4
    exact absurd e (hapart h1' (hput hi h2) n1 n2)
   ·obtain ⟨_,_,h3'⟩:=aux h3 hj
    exact hR.inj i j bi bj zi zj h1' (hput hi h2) h3' (hput hj h4) e
 ·intro id z h
  show id<H.next+1
  by_cases hid:id=H.next
  ·omega
  ·have:=hR.bnd _ _ (hput hid h);omega
 ·intro id bl h
  show id<H.next+1
  by_cases hid:id=H.next
  ·omega
  ·have:=hR.live _ _ (aux h hid).2.2;omega
 ·intro id hid e
  show (((H.blk.del sb).del vb).set H.next (.cells t (n*sz) (Tr.ofList l))).get id=_
  rw [Tr.zR,if_neg (by omega),Tr.jn,if_neg,Tr.jn,if_neg]
  ·rintro rfl;rw [hys]at e;cases e
  ·rintro rfl;rw [hyv]at e;cases e
 ·intro id bl hid h
  exact ⟨bl,(aux h (by omega)).2.2⟩
 ·intro id hid
  have:=hR.base
  show (((H.blk.del sb).del vb).set H.next (.cells t (n*sz) (Tr.ofList l))).get id=_
  rw [Tr.zR,if_neg (by omega),Tr.jn,if_neg (by omega),Tr.jn,if_neg (by omega)]
 ·intro id z hid h
  by_cases hidn:id=H.next
  ·subst hidn
   rw [Inj.zM]at h
   cases h
   rcases hblk with h | h | h
   ·exact .inl h
   ·exact .inr ⟨sb,bs,ys,hs60,hHs,hys,by rw [← hbs];exact h.symm⟩
   ·exact .inr ⟨vb,bv,yv,hv60,hHv,hyv,by rw [← hbv];exact h.symm⟩
  ·exact absurd (hR.bnd _ _ (hput hidn h)) (by omega)
 ·intro c hc hr
  refine hX.frame c hc fun h=>hr ?_
  rcases hrange _ h with h | h
  ·exact ⟨sb,bs,ys,hs60,hHs,hys,by rw [h,hbs]⟩
  ·exact ⟨vb,bv,yv,hv60,hHv,hyv,by rw [h,hbv]⟩
end
end
section
variable [Unk]
section
variable {E:Env} (hE:jU E)
include hE
omit hE in
theorem Vs {U:Tr zJ}{a b:Nat}{x y:zJ} (h:a≠b) (i:Nat):(Tr.set (Tr.set U a x) b y).get i=if b=i then some y else if a=i then some x else U.get i:=by
 have _:=h
 rw [Tr.zR,Tr.zR]
theorem sj (hN:QX E.P) {rec:Rec} (hRec:JA E rec):ml E rec:=by
 intro f args H H' v β w h hR hG hargs
 unfold cl at h
 cases args with
 | nil=>cases h
 | cons a args=>
 cases args with
 | nil=>cases h
 | cons i args=>
 cases args with
 | nil=>cases h
 | cons vv args=>
 simp only [kZ]at h
 replace h:=yS h
 obtain ⟨hnil,h⟩:=h
 subst hnil
 cases hs:jN a with
 | none=>
  rw [hs,zm]at h
  exact kT hE hN hRec h hR hG hargs
 | some s=>
  rw [hs,zg,zu]at h
  split at h
  ·exact kT hE hN hRec h hR hG hargs
  ·rename_i hex
   replace h:=zf h
   obtain ⟨vs,hvs,h⟩:=h
   simp only [z7]at h
   have hva:=jo hs
   have hvv:=jo hvs
   subst hva
   subst hvv
   have hex:s.ex=false:=by simpa using hex
   replace h:=zf h
   obtain ⟨r,hr,h⟩:=h
   replace h:=zf h
   obtain ⟨q,hq,h⟩:=h
   replace h:=zf h
   obtain ⟨sz,hsz,h⟩:=h
   replace h:=zl h
   obtain ⟨hc,h⟩:=h
   simp only [zB,Bool.and_eq_true,qY,zG]at hc
   obtain ⟨⟨hs60,hv60⟩,c1,c2,c3⟩:=hc
   rw [zN,decide_eq_true_eq]at hs60 hv60
   have c1:s.b≠vs.b:=by simpa using c1
   have c3:s.off+s.cap*sz=r.n:=by simpa using c3
   unfold sk at h
   replace h:=zf h
   obtain ⟨p,hp,h⟩:=h
   replace h:=zf h
   obtain ⟨p2,hp2,h⟩:=h
   replace h:=zl h
   obtain ⟨hc2,h⟩:=h
   simp only [zB,Bool.and_eq_true,zG,beq_iff_eq]at hc2
   obtain ⟨d1,d2,d3⟩:=hc2
   have d2:=jZ _ _ d2
   have hpe:p2=p:=by
    obtain ⟨x1,x2⟩:=p
    obtain ⟨y1,y2⟩:=p2
    simp only at d1 d2
    rw [d1,d2]
   subst hpe
   have hts:jC E.P r.t=sz:=(yz hE hsz).choose_spec.2.2.2
   have hwa:WF β (.slice s.b s.off s.len s.cap s.ex):=hargs.1
   have hwi:WF β i:=hargs.2.1
   have hwv:WF β (.slice vs.b vs.off vs.len vs.cap vs.ex):=hargs.2.2.1
   have hHs:=lX hr
   have hHv:=lX hq
   have hHs:H.blk.get s.b=some (.cells r.t r.n r.c):=hHs
   have hHv:H.blk.get vs.b=some (.cells q.t q.n q.c):=hHv
   have hls:=hR.live _ _ hHs
   have hlv:=hR.live _ _ hHv
   obtain ⟨ys,hys⟩:=Option.isSome_iff_exists.1 hwa.1
   obtain ⟨yv,hyv⟩:=Option.isSome_iff_exists.1 hwv.1
   have hbs:β.blk s.b=ys.1:=by simp [Inj.blk,hys]
   have hbv:β.blk vs.b=yv.1:=by simp [Inj.blk,hyv]
   have hbex:β.ext s.b=ys.2.2:=by simp [Inj.ext,hys]
   have hU:∀ id bl,(js E.zW).get id=some bl→id<100∧H.blk.get id=some bl:=fun id bl hh=>hG.zW (id,bl) (JE _ _ _ hh)
   have hTab:∀ (V:Tr zJ),(∀ id,id<100→V.get id=(js E.zW).get id)→∀ p∈E.zW,p.1<100∧V.get p.1=some p.2:=by
    intro V hV p hp
    obtain ⟨t1,t2⟩:=hG.zW p hp
    obtain ⟨bl,hbl⟩:=fg _ p hp
    refine ⟨t1,?_⟩
    rw [hV p.1 t1,hbl,← t2,(hU _ _ hbl).2]
   cases h
   cases hext:ys.2.2 with
   | zero=>
    let Hr:Heap:=⟨Tr.set (Tr.set (js E.zW) s.b (.cells r.t r.n r.c)) vs.b (.cells q.t q.n q.c),H.next⟩
    have hget:∀ id bl,Hr.blk.get id=some bl→H.blk.get id=some bl∧(id<100∨id=s.b∨id=vs.b):=by
     intro id bl hh
     replace hh:(Tr.set (Tr.set (js E.zW) s.b (.cells r.t r.n r.c)) vs.b (.cells q.t q.n q.c)).get id=some bl:=hh
     rw [Vs c1]at hh
     split at hh
     ·rename_i e;subst e;cases hh;exact ⟨hHv,.inr (.inr rfl)⟩
     ·split at hh
      ·rename_i e;subst e;cases hh;exact ⟨hHs,.inr (.inl rfl)⟩
      ·exact ⟨(hU _ _ hh).2,.inl (hU _ _ hh).1⟩
    have hRr:Rel E.P β Hr w:=⟨hR.base,fun id bl x h1 h2=>hR.blk id bl x (hget _ _ h1).1 h2,fun id id' bl bl' x x' h1 h2 h3 h4 e=>hR.inj _ _ _ _ _ _ (hget _ _ h1).1 h2 (hget _ _ h3).1 h4 e,hR.bnd,
     fun id bl h1=>hR.live _ _ (hget _ _ h1).1⟩
    obtain ⟨b,cap,ex,H1,q1,o0,o1,o2,o3,o4,o5,o6⟩:=Wy hp
    have hw:WFs β [.slice s.b s.off s.len s.cap true,i,.slice vs.b vs.off vs.len vs.cap vs.ex]:=⟨⟨hwa.1,hwa.2⟩,hwi,hwv,trivial⟩
    have hcall:=kT hE hN hRec o1 hRr (H:=Hr) ⟨hG.at_,hG.next,hG.facts,hTab _ fun id hid=>by show (Tr.set (Tr.set (js E.zW) s.b (.cells r.t r.n r.c)) vs.b (.cells q.t q.n q.c)).get id=_;rw [Vs c1,if_neg (by omega),if_neg (by omega)],hG.alts⟩ hw
    have hce:zq β [.slice s.b s.off s.len s.cap s.ex,i,.slice vs.b vs.off vs.len vs.cap vs.ex]=zq β [.slice s.b s.off s.len s.cap true,i,.slice vs.b vs.off vs.len vs.cap vs.ex]:=by
     simp [zq,zh,hex,hbex,hext]
    rw [hce]
    refine hcall.mono fun x w' hx=>?_
    obtain ⟨β1,rfl,k1,k2,k3⟩:=hx
    refine lJ hE hR hwa.1 hwv.1 hHs hHv (βr:=β) (Hr:=Hr) hs60 hv60 (fun _ _=>rfl) o0 ?_ (Nat.le_refl _) k2 k3 hts k1 o2 o3 o4 o5 o6 d3
    rintro c ⟨id,bl,z,h0,h1,h2,rfl⟩
    rcases (hget _ _ h1).2 with hlt | rfl | rfl
    ·omega
    ·rw [hys]at h2;cases h2;exact .inl hbs.symm
    ·rw [hyv]at h2;cases h2;exact .inr hbv.symm
   | succ e=>
    have hfr:=hR.fresh (Nat.le_refl H.next)
    let β2:Inj:=β.put H.next (ys.1,ys.2.1,e)
    have hle2:β.le β2:=Inj.j4 hfr
    have hne:H.next≠vs.b:=by omega
    let Hr:Heap:=⟨Tr.set (Tr.set (js E.zW) H.next (.cells r.t (Nat.add r.n sz) r.c)) vs.b (.cells q.t q.n q.c),Nat.succ H.next⟩
    have hget:∀ id bl,Hr.blk.get id=some bl→(id=vs.b∧bl = .cells q.t q.n q.c)∨(id=H.next∧bl = .cells r.t (Nat.add r.n sz) r.c)∨(id<100∧H.blk.get id=some bl):=by
     intro id bl hh
     replace hh:(Tr.set (Tr.set (js E.zW) H.next (.cells r.t (Nat.add r.n sz) r.c)) vs.b (.cells q.t q.n q.c)).get id=some bl:=hh
     rw [Vs hne]at hh
     split at hh
     ·rename_i e';subst e';cases hh;exact .inl ⟨rfl,rfl⟩
     ·split at hh
      ·rename_i e';subst e';cases hh;exact .inr (.inl ⟨rfl,rfl⟩)
      ·exact .inr (.inr (hU _ _ hh))
    have h2v:β2 vs.b=some yv:=(Inj.z8 β _ (show vs.b≠H.next by omega)).trans hyv
    have h2n:β2 H.next=some (ys.1,ys.2.1,e):=Inj.zM _ _ _
    have hyne:ys.1≠yv.1:=fun e'=>c1 (hR.Ja (.inl hs60) hHs hys hHv hyv e')
    obtain ⟨arr,fz,a1,a2⟩:=hR.blk _ _ _ hHs hys
    have hRr:Rel E.P β2 Hr w:=by
     refine ⟨Nat.le_succ_of_le hR.base,?_,?_,?_,?_⟩
     ·intro id bl x h1 h2
      rcases hget _ _ h1 with ⟨rfl,rfl⟩ | ⟨rfl,rfl⟩ | ⟨hlt,hold⟩
      ·rw [h2v]at h2;cases h2
       exact (hR.blk _ _ _ hHv hyv).mono hle2
      ·rw [h2n]at h2;cases h2
       have a3:=a2.mono hle2
       refine ⟨arr,fz,a1,?_,a3.cell,a3.thaw,a3.al⟩
       have hz:=a2.size
       rw [hts,hext]at hz
       rw [hts]
       show ys.2.1+(r.n+sz)+e*sz≤arr.size
       rw [Nat.succ_mul]at hz
       omega
      ·rw [show β2 id=β id from Inj.z8 _ _ (by have:=hR.base;omega)]at h2
       exact (hR.blk _ _ _ hold h2).mono hle2
     ·intro id id' bl bl' x x' h1 h2 h3 h4 e'
      have hb60:=hR.base
      rcases hget _ _ h1 with ⟨rfl,rfl⟩ | ⟨rfl,rfl⟩ | ⟨l1,o1⟩<;>rcases hget _ _ h3 with ⟨rfl,rfl⟩ | ⟨rfl,rfl⟩ | ⟨l2,o2⟩
      ·exact .inl rfl
      ·rw [h2v]at h2;rw [h2n]at h4;cases h2;cases h4;exact absurd e'.symm hyne
      ·rw [h2v]at h2;rw [show β2 id'=β id' from Inj.z8 _ _ (by omega)]at h4;cases h2
       exact hR.inj _ _ _ _ _ _ hHv hyv o2 h4 e'
      ·rw [h2n]at h2;rw [h2v]at h4;cases h2;cases h4;exact absurd e' hyne
      ·exact .inl rfl
      ·rw [h2n]at h2;rw [show β2 id'=β id' from Inj.z8 _ _ (by omega)]at h4;cases h2
       have:=hR.Ja (.inl hs60) hHs hys o2 h4 e'
       omega
      ·rw [h2v]at h4;rw [show β2 id=β id from Inj.z8 _ _ (by omega)]at h2;cases h4
       exact hR.inj _ _ _ _ _ _ o1 h2 hHv hyv e'
      ·rw [h2n]at h4;rw [show β2 id=β id from Inj.z8 _ _ (by omega)]at h2;cases h4
       have:=hR.Ja (.inr hs60) o1 h2 hHs hys e'
       omega
      ·rw [show β2 id=β id from Inj.z8 _ _ (by omega)]at h2
       rw [show β2 id'=β id' from Inj.z8 _ _ (by omega)]at h4
       exact hR.inj _ _ _ _ _ _ o1 h2 o2 h4 e'
     ·intro id x h1
      show id<H.next+1
      by_cases hid:id=H.next
      ·omega
      ·have:=hR.bnd id x (by rwa [show β2 id=β id from Inj.z8 _ _ hid]at h1);omega
     ·intro id bl h1
      show id<H.next+1
      have:=hR.base
      rcases hget _ _ h1 with ⟨rfl,_⟩ | ⟨rfl,_⟩ | ⟨_,_⟩<;>omega
    have hG2:QZ E β2 Hr:=⟨fun g hg=>(Inj.z8 β _ (show g≠H.next by have:=hG.next;omega)).trans (hG.at_ g hg),Nat.le_succ_of_le hG.next,hG.facts.mono hle2,hTab _ fun id hid=>by have:=hG.next;show (Tr.set (Tr.set (js E.zW) H.next (.cells r.t (Nat.add r.n sz) r.c)) vs.b (.cells q.t q.n q.c)).get id=_;rw [Vs hne,if_neg (by omega),if_neg (by omega)],hG.alts.mono hle2⟩
    obtain ⟨b,cap,ex,H1,q1,o0,o1,o2,o3,o4,o5,o6⟩:=Wy hp2
    obtain ⟨wi1,wi2⟩:=WF.mono hle2 i hwi
    obtain ⟨wv1,wv2⟩:=WF.mono hle2 _ hwv
    have hw:WFs β2 [.slice H.next s.off s.len (Nat.succ s.cap) false,i,.slice vs.b vs.off vs.len vs.cap vs.ex]:=⟨⟨by rw [h2n];rfl,Nat.le_succ_of_le hwa.2⟩,wi1,wv1,trivial⟩
    have hcall:=kT hE hN hRec o1 hRr (H:=Hr) hG2 hw
    have hce:zq β [.slice s.b s.off s.len s.cap s.ex,i,.slice vs.b vs.off vs.len vs.cap vs.ex]=zq β2 [.slice H.next s.off s.len (Nat.succ s.cap) false,i,.slice vs.b vs.off vs.len vs.cap vs.ex]:=by
     simp only [zq]
     rw [wi2,wv2]
     congr 1
     simp only [zh,hex,Bool.false_eq_true,if_false,Inj.addr,Inj.blk,Inj.sh,Inj.ext,hys,h2n,Option.getD_some,hext]
     congr 1
     omega
    rw [hce]
    refine hcall.mono fun x w' hx=>?_
    obtain ⟨β1,rfl,k1,k2,k3⟩:=hx
    refine lJ hE hR hwa.1 hwv.1 hHs hHv (βr:=β2) (Hr:=Hr) hs60 hv60 (fun id hid=>Inj.z8 _ _ (by omega)) o0 ?_ (Nat.le_succ _) k2 k3 hts k1 o2 o3 o4 o5 o6 d3
    rintro c ⟨id,bl,z,h0,h1,h2,rfl⟩
    rcases hget _ _ h1 with ⟨rfl,_⟩ | ⟨rfl,_⟩ | ⟨hlt,_⟩
    ·rw [h2v]at h2;cases h2;exact .inr hbv.symm
    ·rw [h2n]at h2;cases h2;exact .inl hbs.symm
    ·omega
structure FitA (E:Env):Prop where
 env:jU E
 count:QX E.P
 spec:cz E
 mixed:E.P.follows .mixedOrders=true
structure Fit (E:Env):Prop extends FitA E where
 noAlts:E.alts = .nil
omit hE in
theorem FitA.plus (hF:FitA E) (l:List Fact):FitA (E.plus l):=⟨⟨hF.env.types,hF.env.funcs⟩,hF.count,hF.spec,hF.mixed⟩
omit hE in
theorem xq (hF:FitA E):∀ n,JA E (Wg E n):=by
 intro n
 induction n with
 | zero=>intro fr c T H β w b a k cs B it hit hA;trivial
 | succ n ih=>
  intro fr c
  have hI:=sj hF.env hF.count ih
  have hO:=pT hF.env hF.count hF.spec ih hI
  refine eT hO (lU hF.env hF.mixed hO) (dI hF.env hF.count ih) ih (ou fun f=>?_) fr c
  have hf:=hF.plus f
  have h0:JA (E.plus f) k7:=fun _ _ _ _ _ _ _ _ _ _ _ _ _ _=>trivial
  have hO':=pT hf.env hf.count hf.spec h0 (sj hf.env hf.count h0)
  exact ⟨hO',lU hf.env hf.mixed hO',dI hf.env hf.count h0⟩
omit hE in
theorem vo (hF:FitA E) {fuel:Nat}{f:FuncId}{args:List zd}{H H':Heap}{v:zd} (h:kB E (Wg E fuel) f args H=some (v,H')) {β:Inj}{w:World} (hR:Rel E.P β H w) (hG:QZ E β H) (hargs:WFs β args) :
  Calls E.P f (zq β args).toArray w fun e w2=>∃ x,e = .returned x∧RR E.P β H w v H' x w2:=
 (K7 hF.env (xq hF fuel) h hR hG hargs).2
end
end
section
variable [Unk]
noncomputable section
def Xn {α:Type} (p:α→Bool) (t:Tr α):Bool:=Tr.rec true (fun _ v _ l r=>zH (zt v true p) (zH l r)) t
def isLit (v:zd):Bool:=match v with | .int _ _=>true | .bool _=>true | .str _=>true | .nilp=>true | .nilslice=>true | .nilmap=>true | .nilfn=>true | .niliface=>true | _=>false
def CS (v:zd):Bool:=match v with | .tuple l=>ZF isLit l | v=>isLit v
def dS (v:zd):Bool:=match v with | .sym i=>Nat.blt i 100 | v=>isLit v
def Xd (b:zJ):Bool:=match b with | .cells _ _ c=>Xn dS c | .text _ v=>dS v | .ints _ v=>dS v | .view c=>Xn dS c | _=>false
def QS (l:List (Nat×zJ)):Bool:=List.rec true (fun p l ih=>zH (zH (Nat.blt p.1 100) (zH (Xd p.2) (zt ((js l).get p.1) true fun _=>false))) ih) l
def fC (t:Tr zJ) (lo hi:Nat) (rows:List (Nat×zJ)):Bool:=
 List.rec true (fun p _ ih=>zH (zH (Nat.ble lo p.1) (Nat.blt p.1 hi)) (zH (zt (t.get p.1) false fun b=>Yb b p.2) ih)) rows
def kH (E:Env) (N:Nat):Heap:=⟨js E.zW,N⟩
def gR (E:Env) (fuel:Nat) (f:FuncId) (args:List zd) (N:Nat) (v:zd):Bool:=
 zt (kB E (Wg E fuel) f args (kH E N)) false fun p=>zH (qs p.1 v) (CS v)
def bP (E:Env) (fuel:Nat) (f:FuncId) (args:List zd) (N n:Nat) (rows:List (Nat×zJ)) (v:zd):Bool:=
 zt (kB E (Wg E fuel) f args (kH E N)) false fun p=>zH (qs p.1 v) (zH (Nat.beq p.2.next (Nat.add N n)) (fC p.2.blk N (Nat.add N n) rows))
end
theorem dh {α:Type} (p:α→Bool):∀ (q:Pa) (t:Tr α),Xn p t=true→∀ v,ZX q t=some v→p v=true:=by
 intro q
 induction q with
 | e=>intro t h v hv;cases t with
  | nil=>cases hv
  | node l a r=>
   have h:zH (zt a true p) (zH (Xn p l) (Xn p r))=true:=h
   rw [Yi]at hv
   subst hv
   rw [zB,Bool.and_eq_true]at h
   exact h.1
 | o q ih=>intro t h v hv;cases t with
  | nil=>cases hv
  | node l a r=>
   have h:zH (zt a true p) (zH (Xn p l) (Xn p r))=true:=h
   rw [zB,zB,Bool.and_eq_true,Bool.and_eq_true]at h
   exact ih l h.2.1 v hv
 | i q ih=>intro t h v hv;cases t with
  | nil=>cases hv
  | node l a r=>
   have h:zH (zt a true p) (zH (Xn p l) (Xn p r))=true:=h
   rw [zB,zB,Bool.and_eq_true,Bool.and_eq_true]at h
   exact ih r h.2.2 v hv
theorem Kn {β β':Inj}{v:zd} (h:isLit v=true) (hw:WF β v):WF β' v∧zh β' v=zh β v:=by
 cases v<;>first | (cases h;done) | exact ⟨trivial,rfl⟩ | exact ⟨hw,rfl⟩
theorem uw {β β':Inj}{v:zd} (h:CS v=true) (hw:WF β v):WF β' v∧zh β' v=zh β v:=by
 have key:∀ l:List zd,ZF isLit l=true→WFs β l→WFs β' l∧zq β' l=zq β l:=by
  intro l
  induction l with
  | nil=>intro _ _;exact ⟨trivial,rfl⟩
  | cons a l ih=>
   intro h hw
   have h:ifB (isLit a) (ZF isLit l) false=true:=h
   rw [zu]at h
   split at h
   ·rename_i ha
    obtain ⟨a1,a2⟩:=Kn (β':=β') ha hw.1
    obtain ⟨b1,b2⟩:=ih h hw.2
    exact ⟨⟨a1,b1⟩,by rw [zq,zq,a2,b2]⟩
   ·cases h
 cases v
 case tuple l=>
  obtain ⟨a1,a2⟩:=key l h hw
  exact ⟨a1,by rw [zh,zh,a2]⟩
 all_goals exact Kn h hw
theorem YY {β β':Inj} (hβ:∀ g,g<100→β g=some (Unk.place g)) (hβ':∀ g,g<100→β' g=some (Unk.place g)) {v:zd} (h:dS v=true) (hw:WF β v):WF β' v∧zh β' v=zh β v:=by
 cases v
 case sym i=>
  have hi:i<100:=by
   have h:Nat.blt i 100=true:=h
   rwa [qo,decide_eq_true_eq]at h
  exact ⟨by simp [WF,hβ' i hi],by simp only [zh,hβ i hi,hβ' i hi]⟩
 all_goals exact Kn h hw
theorem gM {P:Program}{β β':Inj} (hβ:∀ g,g<100→β g=some (Unk.place g)) (hβ':∀ g,g<100→β' g=some (Unk.place g)) {b:zJ}{x:Nat×Nat×Nat}{w:World} (h:Xd b=true) (hb:zZ P β b x w):zZ P β' b x w:=by
 cases b with
 | cells t n c=>
  obtain ⟨arr,fz,h1,h2⟩:=hb
  refine ⟨arr,fz,h1,h2.size,fun i v hv=>?_,h2.thaw,h2.al⟩
  obtain ⟨a1,a2⟩:=h2.cell i v hv
  obtain ⟨b1,b2⟩:=YY hβ hβ' (dh _ _ _ h v hv) a1
  exact ⟨b1,by rw [b2];exact a2⟩
 | map _ _=>cases h
 | loop _ _ _ _ _ _ _ _=>cases h
 | siter _ _=>cases h
 | text t v=>
  obtain ⟨arr,fz,h1,h2⟩:=hb
  obtain ⟨b1,b2⟩:=YY hβ hβ' h h2.wf
  exact ⟨arr,fz,h1,b1,by rw [b2];exact h2.is,h2.size,by rw [b2];exact h2.cell,h2.thaw,h2.one⟩
 | pack _ _ _=>cases h
 | view c=>
  obtain ⟨arr,t,fz,h1,h2⟩:=hb
  refine ⟨arr,t,fz,h1,fun i v hv=>?_⟩
  obtain ⟨a1,a2⟩:=h2 i v hv
  obtain ⟨b1,b2⟩:=YY hβ hβ' (dh _ _ _ h v hv) a1
  exact ⟨b1,by rw [b2];exact a2⟩
 | ints t v=>
  obtain ⟨arr,fz,h1,h2⟩:=hb
  obtain ⟨b1,b2⟩:=YY hβ hβ' h h2.wf
  exact ⟨arr,fz,h1,b1,by rw [b2];exact h2.is,h2.size,by rw [b2];exact h2.cell,h2.thaw,h2.one⟩
theorem yD:∀ {l:List (Nat×zJ)},QS l=true→∀ p∈l,p.1<100∧Xd p.2=true∧(js l).get p.1=some p.2:=by
 intro l
 induction l with
 | nil=>intro _ p hp;cases hp
 | cons q l ih=>
  intro h p hp
  have h:zH (zH (Nat.blt q.1 100) (zH (Xd q.2) (zt ((js l).get q.1) true fun _=>false))) (QS l)=true:=h
  simp only [zB,Bool.and_eq_true,qo,decide_eq_true_eq]at h
  obtain ⟨⟨h1,h2,h3⟩,h4⟩:=h
  rw [show js (q::l)=(js l).set q.1 q.2 from rfl,Tr.zR]
  rcases List.mem_cons.1 hp with rfl | hp
  ·exact ⟨h1,h2,by rw [if_pos rfl]⟩
  ·obtain ⟨a1,a2,a3⟩:=ih h4 p hp
   refine ⟨a1,a2,?_⟩
   rw [if_neg]
   ·exact a3
   ·intro e
    rw [e,a3]at h3
    cases h3
theorem ic {a b:zJ} (h:Yb a b=true):(yc b).isNone=true:=by
 cases a<;>cases b<;>first | rfl | cases h
theorem mY {t:Tr zJ}{lo hi:Nat}:∀ {rows:List (Nat×zJ)},fC t lo hi rows=true→∀ p∈rows,lo≤p.1∧p.1<hi∧(yc p.2).isNone=true∧t.get p.1=some p.2:=by
 intro rows
 induction rows with
 | nil=>intro _ p hp;cases hp
 | cons q rows ih=>
  intro h p hp
  have h:zH (zH (Nat.ble lo q.1) (Nat.blt q.1 hi)) (zH (zt (t.get q.1) false fun b=>Yb b q.2) (fC t lo hi rows))=true:=h
  simp only [zB,Bool.and_eq_true,zN,qo,decide_eq_true_eq]at h
  obtain ⟨⟨h1,h2⟩,h3,h4⟩:=h
  rcases List.mem_cons.1 hp with rfl | hp
  ·cases hg:t.get p.1 with
   | none=>rw [hg]at h3;cases h3
   | some b=>
    rw [hg,zg]at h3
    exact ⟨h1,h2,ic h3,by rw [Xk h3]⟩
  ·exact ih h4 p hp
def qZ (σ:Inj):Inj:=fun id=>if id<100 then some (Unk.place id) else σ id
section
variable {E:Env} (hF:Fit E) {σ:Inj}{N:Nat} (h60:100≤N) (hσ:∀ id x,σ id=some x→id<N) (hfacts:qd E (qZ σ)) (hcl:QS E.zW=true)
include h60 hσ hfacts hcl hF
omit hfacts hF in
theorem mQ {w:World} (hw:yR E.P E.zW w):Rel E.P (qZ σ) (kH E N) w:=by
 obtain ⟨β1,hβ1,h1⟩:=hw
 have mem:∀ id b,(kH E N).blk.get id=some b→id<100∧Xd b=true∧zZ E.P β1 b (Unk.place id) w:=fun id b hb=>by
  have:=JE _ _ _ hb
  obtain ⟨c1,c2,_⟩:=yD hcl _ this
  exact ⟨c1,c2,h1 _ this⟩
 refine ⟨h60,?_,?_,?_,?_⟩
 ·intro id b x hb hx
  obtain ⟨c1,c2,c3⟩:=mem id b hb
  unfold qZ at hx
  rw [if_pos c1]at hx
  cases hx
  exact gM hβ1 (fun g hg=>by unfold qZ;rw [if_pos hg]) c2 c3
 ·intro i j b c x y hb hx hc hy e
  have c1:=(mem i b hb).1
  have d1:=(mem j c hc).1
  unfold qZ at hx hy
  rw [if_pos c1]at hx
  exact .inr ⟨c1,d1⟩
 ·intro id x hx
  show id<N
  unfold qZ at hx
  split at hx
  ·omega
  ·exact hσ id x hx
 ·intro id b hb
  have:=(mem id b hb).1
  show id<N
  omega
omit hF hσ in
theorem fq (hA:Wn E (qZ σ)):QZ E (qZ σ) (kH E N) where
 at_:=fun g hg=>by unfold qZ;rw [if_pos hg]
 next:=h60
 facts:=hfacts
 zW:=fun p hp=>⟨(yD hcl p hp).1,(yD hcl p hp).2.2⟩
 alts:=hA
theorem ya {fuel:Nat}{f:FuncId}{args:List zd}{r:zd}{H':Heap} (h:kB E (Wg E fuel) f args (kH E N)=some (r,H')) (hargs:WFs (qZ σ) args) {w:World} (hw:yR E.P E.zW w) :
  Calls E.P f (zq (qZ σ) args).toArray w fun e w2=>Grown w w2∧∃ γ,e = .returned (zh γ r)∧WF γ r∧(∀ id,id<N→γ id=qZ σ id)∧Rel E.P γ H' w2∧(∀ id x,N≤id→γ id=some x→w.heap.size≤x.1):=by
 have hR:=mQ h60 hσ hcl hw
 have hG:=fq h60 hfacts hcl (mf hF.noAlts)
 refine (vo hF.toFitA h hR hG hargs).mono fun e w2 hx=>?_
 obtain ⟨x,rfl,γ,rfl,a1,a2,a3⟩:=hx
 have hno:∀ c,¬ Range (qZ σ) (kH E N) c:=by
  rintro c ⟨id,b,x,h0,hb,_⟩
  have:=(yD hcl _ (JE _ _ _ hb)).1
  omega
 refine ⟨⟨fun c hc=>a3.frame c hc (hno c),a3.size,a3.tape,a3.os,a3.output⟩,γ,rfl,a1,fun id hid=>a3.old id hid,a2,fun id x hid hx=>?_⟩
 rcases a3.new id x hid hx with h | h
 ·exact h
 ·exact absurd h (hno _)
theorem bS {fuel:Nat}{f:FuncId}{args:List zd}{v:zd} (h:gR E fuel f args N v=true) (hargs:WFs (qZ σ) args) {w:World} (hw:yR E.P E.zW w) :
  Calls E.P f (zq (qZ σ) args).toArray w fun e w2=>Grown w w2∧e = .returned (zh (qZ σ) v)∧WF (qZ σ) v:=by
 unfold gR at h
 cases hr:kB E (Wg E fuel) f args (kH E N) with
 | none=>rw [hr]at h;cases h
 | some p=>
  rw [hr,zg,zB,Bool.and_eq_true]at h
  have hv:=zX _ _ h.1
  refine (ya hF h60 hσ hfacts hcl (r:=p.1) (H':=p.2) hr hargs hw).mono fun e w2 hx=>?_
  obtain ⟨hg,γ,rfl,a1,_⟩:=hx
  rw [hv]at a1 ⊢
  obtain ⟨b1,b2⟩:=uw (β':=qZ σ) h.2 a1
  exact ⟨hg,by rw [b2],b1⟩
theorem nV {fuel:Nat}{f:FuncId}{args:List zd}{n:Nat}{rows:List (Nat×zJ)}{v:zd} (h:bP E fuel f args N n rows v=true) (hargs:WFs (qZ σ) args) :
  jw E.P E.zW (qZ σ) (.make f args N n rows v):=by
 unfold bP at h
 cases hr:kB E (Wg E fuel) f args (kH E N) with
 | none=>rw [hr]at h;cases h
 | some p=>
  rw [hr,zg]at h
  simp only [zB,Bool.and_eq_true,zG,beq_iff_eq]at h
  obtain ⟨h1,h2,h3⟩:=h
  have hv:=zX _ _ h1
  have hrow:=mY h3
  have h2:p.2.next=N+n:=h2
  refine ⟨hargs,fun q hq=>⟨(hrow q hq).1,(hrow q hq).2.1,(hrow q hq).2.2.1⟩,fun w hwt=>?_⟩
  refine (ya hF h60 hσ hfacts hcl (r:=p.1) (H':=p.2) hr hargs hwt).mono fun e w2 hx=>?_
  obtain ⟨hg,γ,rfl,a1,a2,a3,a4⟩:=hx
  rw [hv]at a1 ⊢
  refine ⟨hg,γ,rfl,a1,⟨fun id hid x hx=>by rw [← a2 id hid];exact hx,fun id hid=>?_,a4,fun q hq x hx=>a3.blk q.1 q.2 x (hrow q hq).2.2.2 hx,fun q hq q' hq' x y hx hy e=>a3.Ja (.inl (Nat.le_trans h60 (hrow q hq).1)) (hrow q hq).2.2.2 hx (hrow q' hq').2.2.2 hy e⟩⟩
  cases hγ:γ id with
  | none=>rfl
  | some x=>have:=a3.bnd id x hγ;omega
end
end
section
open Go.ChangeShapes Go.WideShapes
theorem kM {a b:Bool} (h:a=true) (k:b=true):(a&&b)=true:=by rw [h,k];rfl
theorem mR:∀ (l:List (FuncId×Spec)) (t:Tr Spec) (f:FuncId) (s:Spec),(l.foldl (fun t p=>t.set p.1 p.2) t).get f=some s→t.get f=some s∨(f,s)∈l:=by
 intro l
 induction l with
 | nil=>intro t f s h;exact .inl h
 | cons p l ih=>
  intro t f s h
  rcases ih _ _ _ h with h | h
  ·rw [Tr.zR]at h
   by_cases hp:p.1=f
   ·rw [if_pos hp]at h
    cases h
    subst hp
    exact .inr List.mem_cons_self
   ·rw [if_neg hp]at h
    exact .inl h
  ·exact .inr (List.mem_cons_of_mem _ h)
def mj (P:Program) (f:FuncId) (s:Spec):Prop:=
 match s with
 | .mapsClone=>ye P f Extern.MapsClone.clone
 | .indexByte=>ye P f Extern.BytealgIndexByte.indexByte
 | .makeNoZero e=>∃ ps t,ye P f (Extern.BytealgMakeNoZero.makeNoZero ps #[t])∧P.underlying t=some (.slice e)∧jC P e=1
 | .same=>ye P f Extern.AbiNoEscape.same
 | .insert=>True
 | .compare=>ye P f Extern.BytealgCompare.compare
 | .count=>ye P f Extern.BytealgCount.count
 | .fact=>True
def dA (P:Program):Bool:=P.funcs.toList.all fun fn=>!(fn.name == "runtime.NumGoroutine")
theorem bD [Unk] {P:Program}{specs:List (FuncId×Spec)}{facts:List Fact}{zW:List (Nat×zJ)} (hn:dA P=true) (hm:P.follows .mixedOrders=true) (hs:∀ p∈specs,mj P p.1 p.2):Fit (Kd P specs facts zW) where
 env:=rB P specs facts zW
 noAlts:=rfl
 count:=fun f fn h=>by
  have h:P.funcs[f]? = some fn:=h
  rw [← Array.getElem?_toList]at h
  simpa using List.all_eq_true.1 hn fn (List.mem_of_getElem? h)
 spec:=fun f s h=>by
  rcases mR specs _ f s h with h | h
  ·rw [Tr.get_nil]at h;cases h
  ·have:=hs _ h
   cases s<;>exact this
 mixed:=hm
theorem Qe {P:Program}{W:World}{t e:TypeId}{n fuel:Nat}{k:IntKind}{zs:List Int}{cs:List Value}{p:List MemPlace} (ht:P.underlying t=some (.array n e)) (he:P.underlying e=some (.int k)) (hc:P.cellsOf e=1)
  (h:DataW.trod (fun _=>()) P W 0 (fun _=>true) false fuel t cs=some (.agg (zs.map fun z=>.lit (.int k z)),p)) (hz:zs.length=n):∀ (r:Nat) (z:Int),zs[r]? = some z→cs[r]? = some (Value.int k z):=by
 intro r z hr
 have hlt:r<n:=by rw [← hz];exact (List.getElem?_eq_some_iff.1 hr).1
 obtain ⟨xs,m,_,ex,_,hl,hel⟩:=DataW.trod_array ht h
 have hE:=hel r hlt
 rw [hc,Nat.mul_one,List.getElem?_eq_getElem (by omega)]at hE
 obtain ⟨y,e1,e2,_⟩:=DataW.trod_int he hE
 have e3:(xs.map (·.1))=zs.map fun z=>.lit (.int k z):=(DataW.agg.inj (Prod.mk.inj ex).1).symm
 have e4:(xs.map (·.1))[r]? = (zs.map fun z=>(DataW.lit (.int k z):DataW Unit))[r]?:=by rw [e3]
 rw [List.getElem?_map,List.getElem?_map,List.getElem?_eq_getElem (by omega:r<xs.length),hr,e2]at e4
 simp only [Option.map_some,Option.some.injEq,DataW.lit.injEq,Lit.int.injEq,true_and]at e4
 subst e4
 have h0:((cs.drop r).take 1)[0]? = some (.int k y):=by rw [e1];rfl
 simpa using h0
theorem o7 [Unk] {P:Program}{W:World}{g t n:Nat}{k:IntKind}{zs:List Int}{β:Inj}{cs:Array Value}{name:String} (hsh:W.ShapedOpen P) (hg:g<P.globals.size)
  (h0:(((begin P (fun _ _=>0) default).world.heap[g]?).bind Obj.row?).map (fun p=>(p.1.size,p.2))=some (n,t)) (hn:P.globalNamed name=some g) (hv:W.var? P name=some cs)
  (hcs:∀ (r:Nat) (z:Int),zs[r]? = some z→cs.toList[r]? = some (Value.int k z)) (hz:zs.length=n) :
  zZ P β (.cells t n (Tr.ofList (zs.map fun z=>.int k z))) (g,0,0) W:=by
 obtain ⟨⟨zero,t'⟩,e1,e2⟩:=Option.map_eq_some_iff.1 h0
 simp only [Prod.mk.injEq]at e2
 obtain ⟨rfl,rfl⟩:=e2
 obtain ⟨arr,a1,a2,_⟩:=hsh.1 g zero t' hg e1
 have hca:cs=arr:=by
  simp only [World.var?,hn,Option.bind_some,a1]at hv
  exact (Option.some.inj hv).symm
 subst hca
 refine ⟨cs,(0,0),a1,⟨?_,fun i v hi=>?_,fun i _ h=>by omega,Nat.dvd_zero _⟩⟩
 ·show 0+zero.size+0*jC P t'≤cs.size
  omega
 ·rw [Tr.qV,List.getElem?_map]at hi
  obtain ⟨z,hz',rfl⟩:=Option.map_eq_some_iff.1 hi
  refine ⟨trivial,?_⟩
  show cs[0+i]? = _
  rw [Nat.zero_add,← Array.getElem?_toList]
  exact hcs i z hz'
theorem Grown.kept {W W':World} (h:Grown W W') (may:MemPlace→Prop):W.keptBut W' may:=by
 refine ⟨h.os,h.output,fun i hi=>?_⟩
 rw [h.old i hi]
 cases W.heap[i]? with
 | none=>simp
 | some o=>
  cases o<;>simp
variable {H:Type}{enc:TypeId×Value→H}{P:Program}
theorem VZ {a:Assume}{C:Checked}{os:Os}{f:FuncId}{fn:Func}{s:ChangeSpec}{conds:List PathCond}{apart fresh handsOn again:Bool}{X:World→Array Value→Prop}
  (hX:∀ (w w':World) (args:Array Value),w.heap=w'.heap→X w args→X w' args)
  (own:ownKnob C.prog.godebug=none) (started:os.Started) (noInit:C.prog.inits.idxOf? f=none) (hfn:C.prog.funcs[f]? = some fn)
  (witness:∃ (w:World) (tape:Tape) (i:Input),w.os=os∧(w.forCall tape i).Shaped C.prog∧i.vars=[]∧Input.okWide C.prog (w.forCall tape i) .any w.heap.size f i ∧
   ((s.pre enc C.prog fn conds apart (w.forCall tape i).memory i.args∧X (w.forCall tape i).memory i.args)∧sizedMet enc C.prog fn (OpenSpec.ofChange s) apart (w.forCall tape i).memory i.args)∧a.holds C.prog (lone (Frame.enter C.prog f i.args .normal) [] (w.forCall tape i)))
  (contract:∀ (W:World) (base:Nat) (args:Array Value) (ds gs:List (DataW H)) (before:List MemPlace),
   (∀ (j:Nat) t v,fn.params[j]? = some t→args[j]? = some v→Value.okWide C.prog W .any base t v) →
   DataW.Whole enc C.prog fn.params.toList s.vars apart W args.toList ds gs before →
   conds.all (PathCond.test C.prog ⟨fn.params.toList,ds,s.plain.varTypes C.prog,gs⟩)=true →
   X W args→W.ShapedOpen C.prog →
   Calls C.prog f args W fun e W'=>∃ v,e = .returned v∧s.post enc C.prog fn apart fresh handsOn again W args v W') :
  ReturnsInHanded a C os f .any (fun w args=>(s.pre enc C.prog fn conds apart w args∧X w args)∧sizedMet enc C.prog fn (OpenSpec.ofChange s) apart w args) (s.post enc C.prog fn apart fresh handsOn again):=by
 refine returnsInHanded_of_calls own started noInit witness ?_
 intro w tape i _ hsh _ hok hpre _
 obtain ⟨_,_,_,fn',hfn',_,_,_,_,hval⟩:=hok
 have e:fn'=fn:=Option.some.inj (hfn'.symm.trans hfn)
 subst e
 obtain ⟨⟨⟨ds,gs,before,hw,hc⟩,hx⟩,hz⟩:=hpre
 have hw':=DataW.Whole.of_heap (w':=w.forCall tape i) (by rfl) hw
 refine (contract (w.forCall tape i) w.heap.size i.args ds gs before hval hw' hc (hX _ _ _ (by rfl) hx) hsh).mono fun e W' ⟨v,he,hp⟩=>?_
 subst he
 exact ChangeSpec.post_blind hp
end
section
open Go.ChangeShapes Go.WideShapes
theorem Grown.below {W W':World} (h:Grown W W'):RowKit.Below W.heap.size W W':=⟨h.os,h.tape,h.output,h.size,fun k hk=>h.old k hk⟩
variable {H:Type}{enc:TypeId×Value→H}{P:Program}
theorem Ud (hl:laidOutB P=true) {W W':World} (hg:Grown W W'):∀ {ts:List TypeId}{vs:List Value}{ds:List (DataW H)}{ps:List MemPlace},(∀ t∈ts,P.readableRec t=true∧t<P.types.size) →
  DataW.TrodAll enc P W 0 (fun _=>true) true ts vs ds ps→(∀ y∈ps,y.block<W.heap.size)→DataW.TrodAll enc P W' 0 (fun b=>decide (b<W.heap.size)) true ts vs ds ps:=by
 intro ts
 induction ts with
 | nil=>
  intro vs ds ps _ h _
  obtain ⟨rfl,rfl,rfl⟩:=trodAll_nil h
  exact trodAll_mk0
 | cons t ts ih=>
  intro vs ds ps ht h hp
  obtain ⟨v,vs',d,ds',p,q,rfl,rfl,rfl,h1,h2⟩:=trodAll_cons h
  have a:=ht t List.mem_cons_self
  exact trodAll_cons_mk (RowKit.Below.trod hl a.1 a.2 h1 hg.below fun y hy=>hp y (List.mem_append_left _ hy))
   (ih (fun u hu=>ht u (List.mem_cons_of_mem _ hu)) h2 fun y hy=>hp y (List.mem_append_right _ hy))
def V4 (P:Program) (ts:List TypeId):Bool:=ts.all fun t=>P.readableRec t&&decide (t<P.types.size)
theorem nd {f:Func}{s:ChangeSpec}{apart fresh handsOn:Bool}{W W':World}{args:Array Value}{ds gs:List (DataW H)}{before:List MemPlace}{tb:TypeId}
  (hl:laidOutB P=true) (hr:V4 P f.params.toList=true) (hvars:s.vars=[]) (hres:f.resultTypes = #[tb]) (htb:P.underlying tb=some .bool)
  (hfn:∀ ds:List (DataW H),ds.length=f.params.size→s.fn H ds={ results:=[.lit (.bool true)],args:=ds })
  (hW:DataW.Whole enc P f.params.toList s.vars apart W args.toList ds gs before) (hg:Grown W W'):s.post enc P f apart fresh handsOn false W args (.bool true) W':=by
 have hlt:=hW.lt
 have hW0:=hW
 obtain ⟨p,q,hA,hV,rfl,_,_⟩:=hW
 rw [hvars]at hV
 obtain ⟨rfl,rfl⟩:=trodVars_none hV
 have hlen:∀ {ts:List TypeId}{vs:List Value}{ds:List (DataW H)}{ps:List MemPlace}{sp:Nat→Bool},DataW.TrodAll enc P W 0 sp true ts vs ds ps→ds.length=ts.length:=by
  intro ts
  induction ts with
  | nil=>intro vs ds ps sp h;obtain ⟨_,rfl,_⟩:=trodAll_nil h;rfl
  | cons t ts ih=>intro vs ds ps sp h;obtain ⟨_,_,_,_,_,_,_,rfl,_,_,h2⟩:=trodAll_cons h;simp [ih h2]
 have e:s.fn H (ds++[])={ results:=[.lit (.bool true)],args:=ds }:=by
  rw [List.append_nil]
  exact hfn ds (by rw [hlen hA];simp)
 refine ⟨ds,[],_,[],p,[],hW0,?_,?_,?_,hg.kept _,fun h=>by cases h⟩
 ·rw [e,hres]
  exact trodAll_mk1 (RowKit.shut_bool htb true)
 ·rw [e]
  refine Ud hl hg (fun t ht=>?_) hA fun y hy=>hlt y (List.mem_append_left _ hy)
  have:=List.all_eq_true.1 hr t ht
  simpa using this
 ·rw [e,hvars]
  rfl
theorem W2 {C:Checked}{os:Os}{f:FuncId}{fn:Func}{s:ChangeSpec}{laid:List (String×DataW Unit)}{tb:TypeId}
  (own:ownKnob C.prog.godebug=none) (started:os.Started) (noInit:C.prog.inits.idxOf? f=none) (hfn:C.prog.funcs[f]? = some fn)
  (hl:laidOutB C.prog=true) (hr:V4 C.prog fn.params.toList=true) (hvars:s.vars=[]) (hres:fn.resultTypes = #[tb]) (htb:C.prog.underlying tb=some .bool)
  (hsp:∀ ds:List (DataW H),ds.length=fn.params.size→s.fn H ds={ results:=[.lit (.bool true)],args:=ds })
  (witness:∃ (w:World) (tape:Tape) (i:Input),w.os=os∧(w.forCall tape i).Shaped C.prog∧i.vars=[]∧Input.okWide C.prog (w.forCall tape i) .any w.heap.size f i ∧
   ((s.pre enc C.prog fn [] false (w.forCall tape i).memory i.args∧laidMetH C.prog laid (w.forCall tape i).memory)∧sizedMet enc C.prog fn (OpenSpec.ofChange s) false (w.forCall tape i).memory i.args)∧({}:Assume).holds C.prog (lone (Frame.enter C.prog f i.args .normal) [] (w.forCall tape i)))
  (calls:∀ (W:World) (base:Nat) (args:Array Value) (ds:List (DataW H)) (ps:List MemPlace),
   (∀ (j:Nat) t v,fn.params[j]? = some t→args[j]? = some v→Value.okWide C.prog W .any base t v) →
   DataW.TrodAll enc C.prog W 0 (fun _=>true) true fn.params.toList args.toList ds ps→laidMetH C.prog laid W→W.ShapedOpen C.prog →
   Calls C.prog f args W fun e W'=>Grown W W'∧e = .returned (.bool true)) :
  ReturnsInHanded {} C os f .any (fun w args=>(s.pre enc C.prog fn [] false w args∧laidMetH C.prog laid w)∧sizedMet enc C.prog fn (OpenSpec.ofChange s) false w args) (s.post enc C.prog fn false true false false):=by
 refine VZ (X:=fun w _=>laidMetH C.prog laid w) (fun _ _ _ hh h=>h.of_heap hh) own started noInit hfn witness ?_
 intro W base args ds gs before hval hW _ hL hsh
 have hW0:=hW
 obtain ⟨p,q,hA,_⟩:=hW
 refine (calls W base args ds p hval hA hL hsh).mono fun e W' hx=>?_
 obtain ⟨hg,rfl⟩:=hx
 exact ⟨_,rfl,nd hl hr hvars hres htb hsp hW0 hg⟩
end
noncomputable section
section
variable [Unk] {P:Program}{zW:List (Nat×zJ)}{β:Inj}
theorem VN {w:World}:yR P [] w:=⟨fun id=>some (Unk.place id),fun _ _=>rfl,fun p hp=>by cases hp⟩
theorem yR.sub {tabs':List (Nat×zJ)}{w:World} (h:yR P zW w) (hs:∀ p∈tabs',p∈zW):yR P tabs' w:=by
 obtain ⟨β,h1,h2⟩:=h
 exact ⟨β,h1,fun p hp=>h2 p (hs p hp)⟩
theorem kD.sub {tabs':List (Nat×zJ)}{f:FuncId}{args:List zd}{r:zd} (h:kD P tabs' β f args r) (hs:∀ p∈tabs',p∈zW):kD P zW β f args r:=⟨h.1,h.2.1,fun w hw=>h.2.2 w (hw.sub hs)⟩
theorem kC.sub {tabs':List (Nat×zJ)}{f:FuncId}{args:List zd}{N n:Nat}{rows:List (Nat×zJ)}{r:zd} (h:kC P tabs' β f args N n rows r) (hs:∀ p∈tabs',p∈zW):kC P zW β f args N n rows r:=⟨h.1,h.2.1,fun w hw=>h.2.2 w (hw.sub hs)⟩
end
section
variable [Unk]
def codeOf (v:Value):Nat×Nat×Nat:=Classical.epsilon fun z=>yk z=v
def pw (val:Nat→Value):Inj:=fun id=>if 100≤id∧id<300 then some (codeOf (val id)) else none
abbrev Bm (val:Nat→Value):Inj:=qZ (pw val)
variable {val:Nat→Value}
theorem VT:∀ id z,pw val id=some z→id<300:=by
 intro id z h
 unfold pw at h
 split at h
 ·rename_i h1;omega
 ·cases h
end
end
section
variable [Unk]
section
variable {E:Env}{σ:Inj}{N m:Nat}{pl:Nat→Nat×Nat×Nat}
end
def zx (P:Program) (w:World) (x:Nat×Nat×Nat) (t:TypeId) (vs:List Value):Prop:=
 ∃ arr fz,w.heap[x.1]? = some (.cells arr t fz)∧x.2.1+vs.length+x.2.2*jC P t≤arr.size∧(∀ i,i<arr.size→¬ (fz.1≤i∧i<fz.2))∧jC P t ∣ x.2.1∧∀ j,j<vs.length→arr[x.2.1+j]? = vs[j]?
theorem zx.heap {P:Program}{w w':World}{x:Nat×Nat×Nat}{t:TypeId}{vs:List Value} (h:zx P w x t vs) (e:w'.heap[x.1]? = w.heap[x.1]?):zx P w' x t vs:=by
 unfold zx at h ⊢
 rw [e]
 exact h
theorem JX (β:Inj) (l:List zd):(zq β l).length=l.length:=by rw [zK,List.length_map]
theorem ak (β:Inj) (l:List zd) (j:Nat):(zq β l)[j]? = (l[j]?).map (zh β):=by rw [zK,List.getElem?_map]
theorem zx.blk {P:Program}{β:Inj}{w:World}{x:Nat×Nat×Nat}{t n:Nat}{l:List zd} (hn:l.length=n) (hw:WFs β l) (h:zx P w x t (zq β l)):zZ P β (.cells t n (Tr.ofList l)) x w:=by
 obtain ⟨arr,fz,h1,h2,h3,h4,h5⟩:=h
 rw [JX,hn]at h2
 refine ⟨arr,fz,h1,h2,fun i v hv=>?_,h3,h4⟩
 rw [Tr.qV]at hv
 have hi:i<l.length:=(List.getElem?_eq_some_iff.1 hv).1
 refine ⟨(jb _ _).1 hw v (List.mem_of_getElem? hv),?_⟩
 rw [h5 i (by rw [JX];exact hi),ak,hv]
 rfl
theorem zx.of {P:Program}{β:Inj}{w:World}{x:Nat×Nat×Nat}{t n:Nat}{l:List zd} (hn:l.length=n) (h:zZ P β (.cells t n (Tr.ofList l)) x w):zx P w x t (zq β l):=by
 obtain ⟨arr,fz,h1,h2⟩:=h
 refine ⟨arr,fz,h1,?_,h2.thaw,h2.al,fun j hj=>?_⟩
 ·rw [JX,hn];exact h2.size
 ·rw [JX]at hj
  rw [ak,List.getElem?_eq_getElem hj]
  exact (h2.cell j _ (by rw [Tr.qV,List.getElem?_eq_getElem hj])).2
end
end Go.AEv
