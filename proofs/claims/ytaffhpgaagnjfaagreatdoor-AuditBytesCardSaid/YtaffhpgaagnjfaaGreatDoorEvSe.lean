/- A verified evaluator of Go code, and its soundness (EvSe). Conditions: those of each theorem. -/
import Derived.Test.YtaffhpgaagnjfaaGreatDoorEvSd
import Derived.Orders
import Derived.Handed
import Derived.RowKit3
import Derived.OpenShut
import Derived.ChangeSame
import Derived.FnData
import Derived.Carry
import Derived.Stop.Joined
open List Nat Option Array UInt8 Go.Region
set_option linter.unusedSectionVars false
namespace Go.AEv
section
variable[Unk]
theorem JN(m i:Nat):bit m i=m.testBit i:=by
 unfold bit;show Nat.beq ((m >>> i) &&& 1) 1=_;rw[zu,Nat.testBit,Nat.and_comm];rcases mod_two_eq_zero_or_one (m >>> i) with h|h
 .rw[one_and_eq_mod_two,h];rfl
 .rw[one_and_eq_mod_two,h];rfl
theorem XF(m i j:Nat):bit (Ke m i) j=(bit m j||decide (i=j)):=by
 rw[JN,JN];show(m ||| (1 <<< i)).testBit j=_;rw[testBit_or,one_shiftLeft,testBit_two_pow]
theorem zgy(m n j:Nat):bit (lor m n) j=(bit m j||bit n j):=by
 rw[JN,JN,JN];exact testBit_or _ _ _
theorem zmY(i j:Nat):bit (Nat.shiftLeft 1 i) j=decide (i=j):=by
 rw[JN];show(1 <<< i).testBit j=_;rw[one_shiftLeft,testBit_two_pow]
theorem ZV(j:Nat):bit 0 j=false:=by rw[JN];exact zero_testBit j
theorem zfJ{a b:Nat}(h:Vz a b=true){j:Nat}(c:bit a j=true):bit b j=true:=by
 unfold Vz at h;rw[zu,beq_iff_eq]at h;rw[JN]at *;have h:a &&& b=a:=h;rw[<- h,testBit_and,Bool.and_eq_true]at c;exact c.2
theorem zvf{a b:Nat}(h:∀j,bit a j=true->bit b j=true):Vz a b=true:=by
 unfold Vz;rw[zu,beq_iff_eq];show a &&& b=a;apply eq_of_testBit_eq;intro j;rw[testBit_and];have:=h j;rw[JN,JN]at this
 cases c:a.testBit j with
 | false=>simp
 | true=>simp[this c]
theorem zsm{D n:Nat}(h:Nat.beq (Nat.succ D) (Nat.shiftLeft 1 n)=true){i:Nat}(hi:i<n):bit D i=true:=by
 rw[zu,beq_iff_eq]at h;have h:D+1=1 <<< n:=h;rw[one_shiftLeft]at h;rw[JN,show D=2 ^ n-1 by omega,testBit_two_pow_sub_one];simpa using hi
theorem zbv(es:List Edge)(j:Nat):bit (Zm es) j=true↔∃e∈es,Region.binds .any e=true/\e.on=j:=by
 induction es with
 | nil=>rw[show Zm []=0 from rfl,ZV];simp
 | cons e es b=>
  have h:Zm (e::es)=ifB (zaq e) (lor (Nat.shiftLeft 1 e.on) (Zm es)) (Zm es):=rfl;rw[h,zl];by_cases hb:zaq e=true
  .rw[if_pos hb,zgy,zmY];simp only[Bool.or_eq_true,decide_eq_true_eq,b,mem_cons];constructor
   .rintro(h|⟨a,h1,h2,h3⟩)
    .exact⟨e,.inl rfl,hb,h⟩
    .exact⟨a,.inr h1,h2,h3⟩
   .rintro⟨a,h1|h1,h2,h3⟩
    .subst h1;exact .inl h3
    .exact .inr ⟨a,h1,h2,h3⟩
  .rw[if_neg hb,b];simp only[mem_cons];constructor
   .rintro⟨a,h1,h2⟩;exact⟨a,.inr h1,h2⟩
   .rintro⟨a,h1|h1,h2,h3⟩
    .subst h1;exact absurd h2 hb
    .exact⟨a,h1,h2,h3⟩
def Ki(ops:List Oper)(D:Nat->Prop):Prop:=∀(i:Nat) (o:Oper),ops[i]?=some o->D i->∀e∈o.after.toList,Region.binds .any e=true->D e.on
theorem zvn(acc:List Nat)(es:List Edge)(j:Nat)(h:bit (QF acc es) j=true):∃e∈es,Region.binds .any e=true/\(e.on=j\/∃a,acc[e.on]?=some a/\bit a j=true):=by
 induction es with
 | nil=>rw[show QF acc []=0 from rfl,ZV]at h;cases h
 | cons e es d=>
  have f:QF acc (e::es)=ifB (zaq e) (lor (lor (Nat.shiftLeft 1 e.on) (zh (kY e.on acc) 0 fun a=>a)) (QF acc es)) (QF acc es):=rfl;rw[f,zl]at h;by_cases hb:zaq e=true
  .rw[if_pos hb,zgy,zgy,zmY,Bool.or_eq_true,Bool.or_eq_true,decide_eq_true_eq]at h;rcases h with(h|h)|h
   .exact⟨e,by simp,hb,.inl h⟩
   .rw[ye]at h
    cases b:acc[e.on]? with
    | none=>rw[b,zm,ZV]at h;cases h
    | some a=>rw[b,zd]at h;exact⟨e,by simp,hb,.inr ⟨a,b,h⟩⟩
   .obtain⟨c,h1,h2⟩:=d h;exact⟨c,by simp[h1],h2⟩
  .rw[if_neg hb]at h;obtain⟨c,h1,h2⟩:=d h;exact⟨c,by simp[h1],h2⟩
def zgZ(ops:List Oper)(acc:List Nat):Prop:=
 ∀(i a j:Nat),acc[i]?=some a->bit a j=true->∃o:Oper,ops[i]?=some o/\∀D,Ki ops D->(∀e∈o.after.toList,Region.binds .any e=true->D e.on)->D j
theorem zvm(ops:List Oper):∀(l:List Oper) (acc:List Nat),ops.drop acc.length=l->zgZ ops acc ->
  zgZ ops (YW l acc)/\(YW l acc).length=acc.length+l.length:=by
 intro l
 induction l with
 | nil=>intro acc _ h;exact⟨h,rfl⟩
 | cons o l v=>
  intro acc hd h;have y:YW (o::l) acc=YW l (zP acc [QF acc o.after.toList]):=rfl;rw[y,zT]
  have w:ops[acc.length]?=some o:=by
   have:(ops.drop acc.length)[0]?=some o:=by rw[hd];rfl
   rwa[getElem?_drop,Nat.add_zero]at this
  have n:ops.drop (acc++[QF acc o.after.toList]).length=l:=by
   rw[length_append,<- drop_drop,hd];rfl
  have hnext:zgZ ops (acc++[QF acc o.after.toList]):=by
   intro i a j hi r;by_cases k:i<acc.length
   .rw[List.getElem?_append_left k]at hi;exact h i a j hi r
   .rw[List.getElem?_append_right (by omega)]at hi
    have m:i-acc.length=0:=by
     rcases eq_zero_or_pos (i-acc.length) with h|h
     .exact h
     .rw[List.getElem?_eq_none (by simp;omega)]at hi;cases hi
    rw[m]at hi;simp only[getElem?_cons_zero,Option.some.injEq]at hi;subst hi;have:i=acc.length:=by omega
    subst this;refine⟨o,w,fun D t b=>?_⟩;obtain⟨e,he,hb,hc⟩:=zvn _ _ _ r;have f:=b e he hb;rcases hc with rfl|⟨z,p,c⟩
    .exact f
    .obtain⟨u,g,d⟩:=h e.on z j p c;exact d D t (t e.on u g f)
  obtain⟨g1,x⟩:=v (acc++[QF acc o.after.toList]) n hnext;exact⟨g1,by rw[x];simp only[length_append,length_cons,length_nil];omega⟩
theorem Vc(ops:List Oper):zgZ ops (YW ops [])/\(YW ops []).length=ops.length:=by
 obtain⟨h1,h2⟩:=zvm ops ops [] rfl (by intro i a j h;cases h);exact⟨h1,by simpa using h2⟩
theorem zky(E:Env)(ops:List Oper)(as:List Nat):∀(l:List Oper) (i:Nat) (bs:List Nat),l.length=bs.length->∀k:Nat,(zcO E ops as l i bs)[k]? =
  (l[k]?).bind fun o=>(bs[k]?).map fun a=>⟨i+k,Zm o.after.toList,a,kindOf E ops as (i+k) o,o⟩:=by
 intro l
 induction l with
 | nil=>intro i bs _ k;simp[zcO]
 | cons o l b=>
  intro i bs hl k
  cases bs with
  | nil=>simp at hl
  | cons a bs=>
   have c:zcO E ops as (o::l) i (a::bs)=⟨i,Zm o.after.toList,a,kindOf E ops as i o,o⟩::zcO E ops as l (Nat.succ i) bs:=rfl;rw[c]
   cases k with
   | zero=>simp
   | succ k=>
    rw[getElem?_cons_succ,b (Nat.succ i) bs (by simpa using hl) k,getElem?_cons_succ,getElem?_cons_succ];rw[show Nat.succ i+k=i+(k+1) by omega]
theorem zh8(E:Env)(ops:List Oper)(k:Nat):(qC E ops)[k]?=(ops[k]?).bind fun o=>((YW ops [])[k]?).map fun a=>⟨k,Zm o.after.toList,a,kindOf E ops (YW ops []) k o,o⟩:=by
 have:=zky E ops (YW ops []) ops 0 (YW ops []) (Vc ops).2.symm k;rw[Nat.zero_add]at this;exact this
theorem ju{E:Env}{ops:List Oper}{m:OpM}(h:m∈qC E ops):ops[m.i]?=some m.o/\(YW ops [])[m.i]?=some m.anc/\m.pre=Zm m.o.after.toList/\m.kind=kindOf E ops (YW ops []) m.i m.o:=by
 obtain⟨k,b⟩:=List.mem_iff_getElem?.1 h;rw[zh8]at b
 cases c:ops[k]? with
 | none=>rw[c]at b;cases b
 | some o=>
  rw[c,bind_some]at b
  cases d:(YW ops [])[k]? with
  | none=>rw[d]at b;cases b
  | some a=>
   rw[d,map_some]at b;cases b;exact⟨c,d,rfl,rfl⟩
theorem zh7(E:Env){ops:List Oper}{i:Nat}{o:Oper}(h:ops[i]?=some o):∃m∈qC E ops,m.i=i/\m.o=o:=by
 have hi:=(List.getElem?_eq_some_iff.1 h).1;obtain⟨a,b⟩:∃a,(YW ops [])[i]?=some a:=⟨_,List.getElem?_eq_getElem (by rw[(Vc ops).2];exact hi)⟩
 refine⟨⟨i,Zm o.after.toList,a,kindOf E ops (YW ops []) i o,o⟩,List.mem_iff_getElem?.2 ⟨i,?_⟩,rfl,rfl⟩;rw[zh8,h,b];rfl
theorem ztu(t:Nat)(l:List Operand):znU t l=true↔Operand.tmp t∈l:=by
 induction l with
 | nil=>simp[znU]
 | cons x l a=>
  have d:znU t (x::l)=zh (zep x) (znU t l) fun u=>ifB (Nat.beq u t) true (znU t l):=rfl;rw[d]
  cases x with
  | tmp u=>
   simp only[zep,zd,zl,zu,beq_iff_eq,mem_cons,Operand.tmp.injEq];by_cases b:u=t
   .subst b;simp
   .rw[if_neg b,a];constructor
    .exact .inr
    .rintro(h|h)
     .exact absurd h.symm b
     .exact h
  | const c=>simp[zep,a]
  | global g=>simp[zep,a]
  | func f=>simp[zep,a]
theorem znZ{ops:List Oper}{w t:Nat}:∀(l:List Oper) (as:List Nat),late ops w t l as=false->l.length=as.length->∀(k:Nat) (o:Oper) (a:Nat),l[k]?=some o->as[k]?=some a->looks ops o t=true->bit a w=true:=by
 intro l
 induction l with
 | nil=>intro as _ _ k o a h;simp at h
 | cons x l f=>
  intro as h hl k o a d e c
  cases as with
  | nil=>simp at hl
  | cons b bs=>
   have g:late ops w t (x::l) (b::bs)=ifB (looks ops x t) (ifB (bit b w) (late ops w t l bs) true) (late ops w t l bs):=rfl;rw[g]at h
   cases k with
   | zero=>
    simp only[getElem?_cons_zero,Option.some.injEq]at d e;subst d e;rw[c,qK,zl]at h;split at h
    .assumption
    .cases h
   | succ k=>
    refine f bs ?_ (by simpa using hl) k o a (by simpa using d) (by simpa using e) c;rw[zl]at h;split at h
    .rw[zl]at h;split at h
     .exact h
     .cases h
    .exact h
theorem zcH{t:Nat}:∀ {l:List Oper},zcI t l=true->∀o∈l,o.dst≠some t:=by
 intro l
 induction l with
 | nil=>intro _ o h;cases h
 | cons x l b=>
  intro h o a;have c:zcI t (x::l)=zh x.dst (zcI t l) fun d=>ifB (Nat.beq d t) false (zcI t l):=rfl;rw[c]at h
  cases hx:x.dst with
  | none=>
   rw[hx,zm]at h;rcases List.mem_cons.1 a with rfl|a
   .rw[hx];simp
   .exact b h o a
  | some d=>
   rw[hx,zd,zl,zu]at h;split at h
   .cases h
   .rename_i hd;rcases List.mem_cons.1 a with rfl|a
    .rw[hx];simpa using hd
    .exact b h o a
theorem zaM:∀ {l:List Oper},Qk l=true->∀(i j:Nat) (b a:Oper) (d:Tmp),l[i]?=some b->l[j]?=some a->b.dst=some d->a.dst=some d->i=j:=by
 intro l
 induction l with
 | nil=>intro _ i j b a d h;simp at h
 | cons x l g=>
  intro h i j b a d hi c f e;have k:Qk (x::l)=zh x.dst (Qk l) fun d=>ifB (zcI d l) (Qk l) false:=rfl;rw[k]at h
  have hl:Qk l=true:=by
   cases hx:x.dst with
   | none=>rw[hx,zm]at h;exact h
   | some d=>rw[hx,zd]at h;rw[zl]at h;split at h;exact h;cases h
  have hn:∀d,x.dst=some d->zcI d l=true:=by
   intro d hx;rw[hx,zd,zl]at h;split at h
   .assumption
   .cases h
  cases i with
  | zero=>
   simp only[getElem?_cons_zero,Option.some.injEq]at hi;subst hi
   cases j with
   | zero=>rfl
   | succ j=>exact absurd e (zcH (hn d f) a (List.mem_of_getElem? (by simpa using c)))
  | succ i=>
   cases j with
   | zero=>
    simp only[getElem?_cons_zero,Option.some.injEq]at c;subst c
    exact absurd f (zcH (hn d e) b (List.mem_of_getElem? (by simpa using hi)))
   | succ j=>rw[g hl i j b a d (by simpa using hi) (by simpa using c) f e]
end
section
variable[Unk]
section
variable{E:Env}
theorem KY{o : Op}{rec : Rec}{T : Tr zb}{H H' : Heap}{v : zb}(f : yp E o = 0)(h : aop o E rec T H = some (v, H')) : H' = H /\ ∀c, o = .call c -> ∃b, c.callee = .builtin b := by
  have u : ∀ {p : Prop}, p -> (∀c, o ≠ .call c) -> p /\ ∀c, o = .call c -> ∃b, c.callee = .builtin b := fun hp hn => ⟨hp, fun c hc => absurd hc (hn c)⟩
  cases o <;> first|(exfalso; revert f; simp[yp]; done)|skip
  case pick c a b =>
    refine u ?_ (by intro c; simp);replace h := ze h;obtain⟨_, _, h⟩ := h;replace h := ze h;obtain⟨q, _, h⟩ := h;cases q
    · exact(qQ h).2
    · exact(qQ h).2
  case convert s d x =>
    refine u ?_ (by intro c; simp);have f : ifB (toInt E d) 0 2 = 0 := f;rw[zl] at f;split at f
    case isFalse => cases f
    rename_i hd;replace h := ze h;obtain⟨a, _, h⟩ := h;rw[zl] at h;split at h
    · replace h := ze h
      obtain⟨l, i, h⟩ := h;replace h := ze h;obtain⟨m, w, h⟩ := h
      cases j : Wo l with
      | some k =>
        rw[j, zd] at h;replace h := zg h;obtain⟨_, h⟩ := h;replace h := ze h;obtain⟨r, _, h⟩ := h;cases h
        rfl
      | none =>
        exfalso;unfold toInt at hd;rw[i, zd] at hd;cases l <;> first|(cases hd; done)|(cases j; done)
    replace h := ze h;obtain⟨l, i, h⟩ := h
    have hi : isInt l = true := by
      unfold toInt at hd;rw[i, zd] at hd;exact hd
    replace h := ze h;obtain⟨m, w, h⟩ := h
    cases y : asInt a with
    | some p =>
      rw[y, zd] at h;replace h := ze h;obtain⟨k, _, h⟩ := h;replace h := ze h;obtain⟨n, _, h⟩ := h;cases h
      rfl
    | none =>
      rw[y, zm, zl] at h;cases l <;> try(cases hi; done)
      split at h
      · replace h := ze h
        obtain⟨s, _, h⟩ := h;have h : (bnd (none : Option TypeId) fun e => zlf E H e s) = some (v, H') := h;cases h
      · unfold zle at h
        cases h2 : j8 m with
        | some e =>
          rw[h2, zd] at h;have h : (none : R) = some (v, H') := h
          cases h
        | none =>
          rw[h2, zm] at h
          cases h3 : zkZ m with
          | some t =>
            rw[h3, zd] at h;have h : (none : R) = some (v, H') := h
            cases h
          | none =>
            rw[h3, zm, zl] at h;split at h
            · have h : (none : R) = some (v, H') := h
              cases h
            · cases h
  case call c =>
    obtain⟨ce, as, z⟩ := c
    cases ce with
    | value g => exact absurd f (by simp[yp, zdG])
    | invoke r n => exact absurd f (by simp[yp, zdG])
    | builtin b =>
      refine⟨?_, fun c hc => by cases hc; exact⟨b, rfl⟩⟩;have f : ifB (zll b) 0 2 = 0 := f;replace h := ze h;obtain⟨vs, _, h⟩ := h;unfold UD at h
      cases vs with
      | nil => cases h
      | cons x r =>
        rw[ZK] at h;revert h
        cases z.toList with
        | nil => intro h; cases h
        | cons t us =>
          intro h;simp only[ZK] at h
          cases b <;> first
            | (exfalso; revert f; simp[zll, zl]; done)
            | exact(qQ h).2
            | (cases h; done)
  all_goals
    refine u ?_ (by intro c; simp)
    repeat (first
      | (replace h := ze h
         obtain⟨_, _, h⟩ := h)
      | (replace h := zg h
         obtain⟨_, h⟩ := h)
      | (replace h := yI h
         obtain⟨_, h⟩ := h))
    cases h;rfl
theorem Wh{o:Op}{rec:Rec}{T:Tr zb}{H H':Heap}{v:zb}(f:yp E o=1)(h:aop o E rec T H=some (v,H')) :
  (∃t n c,H'=⟨H.blk.set H.next (.cells t n c),H.next+1⟩)/\(v = .ptr H.next 0\/∃l c,v = .slice H.next 0 l c true)/\∀c,o≠.call c:=by
 cases o<;>first|(exfalso;revert f;simp[yp];done)|skip
 case convert s d x=>exact absurd f (by show ifB (toInt E d) 0 2≠1;rw[zl];split<;>simp)
 case call c=>exact absurd f (by show ifB (zdG c) 0 2≠1;rw[zl];split<;>simp)
 case alloc t=>
  replace h:=ze h;obtain⟨z,g,h⟩:=h;have h:=jX h;cases h;exact⟨⟨_,_,_,rfl⟩,.inl rfl,by simp⟩
 case box t x=>
  replace h:=ze h;obtain⟨u,w,h⟩:=h;replace h:=zg h;obtain⟨_,h⟩:=h;have h:=jX h;cases h;exact⟨⟨_,_,_,rfl⟩,.inl rfl,by simp⟩
 case buildSlice t len parts=>
  replace h:=ze h;obtain⟨d,hd,h⟩:=h;replace h:=ze h;obtain⟨e,he,h⟩:=h;replace h:=ze h;obtain⟨r,j,h⟩:=h;replace h:=ze h;obtain⟨s,hs,h⟩:=h;replace h:=ze h;obtain⟨z,g,h⟩:=h;replace h:=zg h;obtain⟨hb,h⟩:=h;replace h:=ze h;obtain⟨l,hl,h⟩:=h;replace h:=zg h;obtain⟨_,h⟩:=h;have h:=jX h;cases h;exact⟨⟨_,_,_,rfl⟩,.inr ⟨_,_,rfl⟩,by simp⟩
 case makeSlice t l c=>
  replace h:=ze h;obtain⟨d,hd,h⟩:=h;replace h:=ze h;obtain⟨e,he,h⟩:=h;replace h:=ze h;obtain⟨a,A,h⟩:=h;replace h:=ze h;obtain⟨b,hb,h⟩:=h;replace h:=ze h;obtain⟨p,hp,h⟩:=h;replace h:=zg h;obtain⟨hi,h⟩:=h;replace h:=jj h;obtain⟨n,hn,h⟩:=h;replace h:=ze h;obtain⟨q,hq,h⟩:=h;replace h:=zg h;obtain⟨y,h⟩:=h;replace h:=jj h;obtain⟨m,hm,h⟩:=h;replace h:=ze h;obtain⟨i,k,h⟩:=h;replace h:=ze h;obtain⟨z,g,h⟩:=h;replace h:=zg h;obtain⟨_,h⟩:=h;simp only[zY]at h;have h:=jX h;cases h;exact⟨⟨_,_,_,rfl⟩,.inr ⟨_,_,rfl⟩,by simp⟩
theorem zeO(o:Op):yp E o=0\/yp E o=1\/yp E o=2:=by
 cases o<;>simp[yp]
 case convert s d x=>rw[zl];split<;>simp
 case call c=>rw[zl];split<;>simp
theorem WS{ops:List Oper}{m:OpM}(hm:m∈qC E ops)(b:m.kind≠2) :
  ((m.kind=0/\yp E m.o.op=0)\/(m.kind=1/\yp E m.o.op=1/\∃d,m.o.dst=some d)) /\
  ∀d,m.o.dst=some d->∀(j:Nat) (o:Oper) (a:Nat),ops[j]?=some o->(YW ops [])[j]?=some a->looks ops o d=true->bit a m.i=true:=by
 obtain⟨h1,h2,h3,k⟩:=ju hm;rw[k]at b ⊢;unfold kindOf at b ⊢
 cases hd:m.o.dst with
 | none=>
  rw[hd,zm,zl,zu]at b;rw[zm,zl,zu];refine⟨.inl ?_,by intro d h;cases h⟩;split at b
  .exact absurd rfl b
  .rename_i hn;rw[if_neg hn];rcases zeO (E:=E) m.o.op with h|h|h
   .exact⟨h,h⟩
   .exact absurd (by rw[h];rfl) hn
   .exact absurd h b
 | some d=>
  rw[hd,zd,zl]at b;rw[zd,zl];split at b
  .exact absurd rfl b
  .rename_i hl;rw[if_neg hl];refine⟨?_,?_⟩
   .rcases zeO (E:=E) m.o.op with h|h|h
    .exact .inl ⟨h,h⟩
    .exact .inr ⟨h,h,d,rfl⟩
    .exact absurd h b
   .intro l e j o a f g c;cases e;exact znZ ops (YW ops []) (by simpa using hl) (Vc ops).2.symm j o a f g c
theorem J9{ops:List Oper}{m b:OpM}(h:m∈qC E ops)(h':b∈qC E ops)(hi:m.i=b.i):m=b:=by
 obtain⟨n,l,j,g⟩:=ju h;obtain⟨d,c,f,e⟩:=ju h';obtain⟨i,p,a,k,o⟩:=m;obtain⟨u,r,v,k',t⟩:=b;simp only at *;subst hi;rw[n]at d;cases d;rw[l]at c;cases c;rw[j,f,g,e]
theorem Rel.zfX{P:Program}{a:Inj}{H:Heap}{w:World}(hR:Rel P a H w)(b:zo):Rel P a ⟨H.blk.set H.next b,H.next+1⟩ w where
 base:=le_succ_of_le hR.base
 blk:=fun id c x h1 h2=>by
  have h1:(H.blk.set H.next b).get id=some c:=h1;have hid:=hR.bnd _ _ h2;rw[Tr.zK,if_neg (by omega)]at h1;exact hR.blk id c x h1 h2
 inj:=fun i j c d x y h1 h2 h3 f e=>by
  have h1:(H.blk.set H.next b).get i=some c:=h1;have h3:(H.blk.set H.next b).get j=some d:=h3;have hi:=hR.bnd _ _ h2;have g:=hR.bnd _ _ f;rw[Tr.zK,if_neg (by omega)]at h1 h3;exact hR.inj _ _ _ _ _ _ h1 h2 h3 f e
 bnd:=fun id x h=>lt_succ_of_lt (hR.bnd id x h)
 live:=fun id c h=>by
  have h:(H.blk.set H.next b).get id=some c:=h;show id<H.next+1;rw[Tr.zK]at h;split at h
  .omega
  .have:=hR.live _ _ h;omega
structure Lag(E:Env)(N:Nat)(fr:Fr)(ops:List Oper)(Dc:Nat->Prop)(Da:Nat)(T:Tr zb)(H:Heap)(β:Inj)(w:World)(arr:Array Value):Prop where
 rel:Rel E.P β H w
 glob:Yv E β H
 size:arr.size=fr.n
 tmp:∀t,TV β (tv T t) (arr.getD t undef)\/∃i o,ops[i]?=some o/\o.dst=some t/\bit Da i=true/\¬Dc i
 sub:∀i,Dc i->bit Da i=true
 closed:Ki ops Dc
 heavy:∀m∈qC E ops,m.kind=2->bit Da m.i=true->Dc m.i
 rows:∀m∈qC E ops,m.kind=1->bit Da m.i=true->¬Dc m.i->∀d,m.o.dst=some d->∀c,bid (tv T d)=some c->β c=none/\c<H.next/\N<=c
 nn:N<=H.next
 apart:∀m∈qC E ops,∀m'∈qC E ops,m.kind=1->m'.kind=1->bit Da m.i=true->bit Da m'.i=true->¬Dc m.i->¬Dc m'.i->m.i≠m'.i ->
  ∀d d',m.o.dst=some d->m'.o.dst=some d'->∀c,bid (tv T d)=some c->bid (tv T d')≠some c
 lt:∀(i:Nat) (o:Oper) (d:Tmp),ops[i]?=some o->bit Da i=true->o.dst=some d->d<fr.n
 order:∃L:List Nat,(∀i,bit Da i=true↔i∈L)/\∀L1 i L2,L=L1++i::L2->∃o,ops[i]?=some o/\∀e∈o.after.toList,Region.binds .any e=true->e.on∈L1
theorem zeN{ops:List Oper}{f:Nat}{i:Nat}{o:Oper}(g:ops[i]?=some o)(hp:Vz (Zm o.after.toList) f=true)
  (h:∃L:List Nat,(∀i,bit f i=true↔i∈L)/\∀b i d,L=b++i::d->∃o,ops[i]?=some o/\∀e∈o.after.toList,Region.binds .any e=true->e.on∈b) :
  ∃L:List Nat,(∀j,bit (Ke f i) j=true↔j∈L)/\∀b i d,L=b++i::d->∃o,ops[i]?=some o/\∀e∈o.after.toList,Region.binds .any e=true->e.on∈b:=by
 obtain⟨L,h1,h2⟩:=h;refine⟨L++[i],fun j=>?_,fun b j d e=>?_⟩
 .rw[XF,Bool.or_eq_true,decide_eq_true_eq,h1,List.mem_append,List.mem_singleton];constructor
  .rintro(h|h)
   .exact .inl h
   .exact .inr h.symm
  .rintro(h|h)
   .exact .inl h
   .exact .inr h.symm
 .rcases List.append_eq_append_iff.1 e with⟨q,c,a⟩|⟨q,c,a⟩
  ·
   cases q with
   | nil=>
    simp at c a;obtain⟨a,_⟩:=a;subst a;subst c
    refine⟨o,g,fun e he hb=>(h1 _).1 (zfJ hp ((zbv _ _).2 ⟨e,he,hb,rfl⟩))⟩
   | cons x q=>simp at a
  .cases q with
   | nil=>
    simp at c a;obtain⟨a,_⟩:=a;subst a;subst c
    refine⟨o,g,fun e he hb=>(h1 _).1 (zfJ hp ((zbv _ _).2 ⟨e,he,hb,rfl⟩))⟩
   | cons x q=>
    simp only[cons_append,List.cons.injEq]at a;obtain⟨a,_⟩:=a;subst a;exact h2 b _ q c
end
end
section
variable[Unk]
section
variable{E:Env}
theorem Kc{rec:Rec}{n:Nat}{ops:List Oper}{o:Oper}{K:zgT}{T:Tr zb}{H:Heap}{r:jk}(h:zbr E rec n ops o K T H=r)(b:r≠.fail) :
  ∃v H',K (match o.dst with|none=>T|some d=>T.set d v) H'=r/\(∀d,o.dst=some d->d<n) /\
   ((ZA ops T o=true/\aop o.op E rec T H=some (v,H'))\/(ZA ops T o=false/\v=jf/\H'=H)):=by
 have run:∀(h:zft E rec n o T H K=r),∃v H',K (match o.dst with|none=>T|some d=>T.set d v) H'=r/\(∀d,o.dst=some d->d<n)/\aop o.op E rec T H=some (v,H'):=by
  intro h;unfold zft at h
  cases hx:aop o.op E rec T H with
  | none=>rw[hx]at h;exact absurd h.symm b
  | some p=>
   rw[hx,zd]at h;rcases zgF h b with⟨hd,h1⟩|⟨d,hd,a,h1⟩
   .exact⟨p.1,p.2,by rw[hd];exact h1,fun d h=>(by rw[hd]at h;cases h),rfl⟩
   .exact⟨p.1,p.2,by rw[hd];exact h1,fun j h=>(by rw[hd]at h;cases h;exact a),rfl⟩
 unfold zbr at h;unfold ZA
 cases i:o.guard with
 | none=>
  rw[i]at h;obtain⟨v,H',f,e,c⟩:=run h
  exact⟨v,H',f,e,.inl ⟨rfl,c⟩⟩
 | some g=>
  rw[i,zd,zl]at h;split at h
  .exact absurd h.symm b
  rw[zl]at h;split at h
  .rename_i hw;obtain⟨v,H',f,e,c⟩:=run h;exact⟨v,H',f,e,.inl ⟨hw,c⟩⟩
  .rename_i hw;rcases zgF h b with⟨hd,h1⟩|⟨d,hd,a,h1⟩
   .exact⟨jf,H,by rw[hd];exact h1,fun d h=>(by rw[hd]at h;cases h),.inr ⟨by simpa using hw,rfl,rfl⟩⟩
   .exact⟨jf,H,by rw[hd];exact h1,fun j h=>(by rw[hd]at h;cases h;exact a),.inr ⟨by simpa using hw,rfl,rfl⟩⟩
theorem zlx{rec:Rec}{n:Nat}{ops:List Oper}{o:Oper}{K:zgT}{T:Tr zb}{H:Heap}{r:jk}(h:zbr E rec n ops o K T H=r)(a:r≠.fail):∀g,o.guard=some g->zfH ops T g=false:=by
 intro g b;unfold zbr at h;rw[b,zd,zl]at h;split at h
 .exact absurd h.symm a
 .rename_i hs;simpa using hs
theorem zji{ops:List Oper}{T:Tr zb}{H:Heap}{row:Bool}{o:Oper}(h:again E ops T H row o=true):∀g,o.guard=some g->zfH ops T g=false:=by
 intro g a;unfold again at h;rw[a,zd,zl]at h;split at h
 .cases h
 .rename_i hs;simpa using hs
noncomputable def zcf(T:Tr zb)(o:Oper)(v:zb):Tr zb:=match o.dst with|none=>T|some d=>T.set d v
theorem Qx{T:Tr zb}{o:Oper}{v:zb}{t:Nat}(h:o.dst≠some t):tv (zcf T o v) t=tv T t:=by
 unfold zcf
 cases hd:o.dst with
 | none=>rfl
 | some d=>rw[zjA,if_neg (fun e=>h (by rw[hd,e]))]
theorem Q5{T:Tr zb}{o:Oper}{v:zb}{d:Nat}(h:o.dst=some d):tv (zcf T o v) d=v:=by
 unfold zcf;rw[h,zjA,if_pos rfl]
theorem Lag.zvN{N:Nat}{fr:Fr}{ops:List Oper}(I:Qk ops=true){Dc:Nat->Prop}{A:Nat}{T:Tr zb}{H:Heap}{L:Inj}{w:World}{arr:Array Value}(f:Lag E N fr ops Dc A T H L w arr)
  {m:OpM} (hm:m∈qC E ops) (hk:m.kind≠2) (hnd:bit A m.i=false) (hpre:Vz m.pre A=true) {rec:Rec}{v:zb}{H':Heap}
  (hlt:∀d,m.o.dst=some d->d<fr.n) (hx:(aop m.o.op E rec T H=some (v,H'))\/(v=jf/\H'=H)) :
  Lag E N fr ops Dc (Ke A m.i) (zcf T m.o v) H' L w arr:=by
 obtain⟨g1,g2,g3,g4⟩:=ju hm;obtain⟨r,_⟩:=WS hm hk;have U:¬Dc m.i:=fun h=>by rw[f.sub _ h]at hnd;cases hnd
 have old:∀ {i o t},ops[i]?=some o->o.dst=some t->i≠m.i->tv (zcf T m.o v) t=tv T t:=by
  intro i o t hi hd g;apply Qx;intro X;exact g (zaM I i m.i o m.o t hi g1 hd X)
 have a:∀i,bit (Ke A m.i) i=true->i≠m.i->bit A i=true:=by
  intro i hi g;rw[XF,Bool.or_eq_true,decide_eq_true_eq]at hi;rcases hi with hi|hi
  .exact hi
  .exact absurd hi.symm g
 have B:∀i,bit A i=true->bit (Ke A m.i) i=true:=fun i hi=>by rw[XF,hi];rfl
 have hself:bit (Ke A m.i) m.i=true:=by rw[XF];simp
 have Y:H'=H\/∃b,H'=⟨H.blk.set H.next b,H.next+1⟩:=by
  rcases hx with hx|⟨_,rfl⟩
  .rcases r with⟨_,Z⟩|⟨_,h1,_⟩
   .exact .inl (KY Z hx).1
   .obtain⟨⟨t,n,c,e⟩,_⟩:=Wh h1 hx;exact .inr ⟨_,e⟩
  .exact .inl rfl
 have hrel:Rel E.P L H' w:=by
  rcases Y with rfl|⟨b,rfl⟩
  .exact f.rel
  .exact f.rel.zfX b
 have hnext:H.next<=H'.next:=by
  rcases Y with rfl|⟨b,rfl⟩
  .exact Nat.le_refl _
  .exact le_succ _
 have y:m.kind=1->∀c,bid v=some c->c=H.next/\H'.next=H.next+1:=by
  intro h1 c hc;rcases r with⟨Z,_⟩|⟨_,hop,_⟩
  .rw[Z]at h1;cases h1
  .rcases hx with hx|⟨rfl,_⟩
   .obtain⟨⟨t,n,cc,e⟩,hv,_⟩:=Wh hop hx;rcases hv with rfl|⟨l,cp,rfl⟩
    .cases hc;exact⟨rfl,by rw[e]⟩
    .cases hc;exact⟨rfl,by rw[e]⟩
   .cases hc
 have C:∀p∈E.tabs,p.1<100/\H'.blk.get p.1=some p.2:=by
  intro p hp;obtain⟨t1,t2⟩:=f.glob.tabs p hp;refine⟨t1,?_⟩;have hb:=f.rel.base;rcases Y with rfl|⟨b,rfl⟩
  .exact t2
  .show(H.blk.set H.next b).get p.1=_;rw[Tr.zK,if_neg (by omega)];exact t2
 refine⟨hrel,⟨f.glob.at_,Nat.le_trans f.glob.next hnext,f.glob.facts,C,f.glob.alts⟩,f.size,?_,fun i hi=>B i (f.sub i hi),f.closed,?_,?_,Nat.le_trans f.nn hnext,?_,?_,?_⟩
 .intro t;by_cases hd:m.o.dst=some t
  .exact .inr ⟨m.i,m.o,g1,hd,hself,U⟩
  .rw[Qx hd];rcases f.tmp t with h|⟨i,o,h1,h2,h3,h4⟩
   .exact .inl h
   .exact .inr ⟨i,o,h1,h2,B i h3,h4⟩
 .intro G j u hb;by_cases hi:G.i=m.i
  .obtain rfl:=J9 j hm hi;exact absurd u hk
  .exact f.heavy G j u (a _ hb hi)
 .intro G j u hb hn d hd c hc;by_cases hi:G.i=m.i
  .obtain rfl:=J9 j hm hi;rw[Q5 hd]at hc;obtain⟨rfl,e⟩:=y u c hc;exact⟨f.rel.fresh (Nat.le_refl _),by omega,f.nn⟩
  .obtain⟨q1,_⟩:=ju j;rw[old q1 hd hi]at hc;obtain⟨c1,c2,c3⟩:=f.rows G j u (a _ hb hi) hn d hd c hc;exact⟨c1,by omega,c3⟩
 .intro O z M hm2 Q k2 b1 b2 n1 n2 g d1 d2 K J c hc k;obtain⟨q1,_⟩:=ju z;obtain⟨q2,_⟩:=ju hm2;by_cases x:O.i=m.i
  .obtain rfl:=J9 z hm x;rw[Q5 K]at hc;rw[old q2 J (fun h=>g h.symm)]at k;obtain⟨rfl,_⟩:=y Q c hc;have:=(f.rows M hm2 k2 (a _ b2 (fun h=>g h.symm)) n2 d2 J _ k).2.1;omega
  .by_cases D:M.i=m.i
   .obtain rfl:=J9 hm2 hm D;rw[Q5 J]at k;rw[old q1 K x]at hc;obtain⟨rfl,_⟩:=y k2 c k;have:=(f.rows O z Q (a _ b1 x) n1 d1 K _ hc).2.1;omega
   .rw[old q1 K x]at hc;rw[old q2 J D]at k;exact f.apart O z M hm2 Q k2 (a _ b1 x) (a _ b2 D) n1 n2 g d1 d2 K J c hc k
 .intro i o d hi hb hd;by_cases he:i=m.i
  .subst he;rw[g1]at hi;cases hi;exact hlt d hd
  .exact f.lt i o d hi (a _ hb he) hd
 .exact zeN g1 (by rw[<- g3];exact hpre) f.order
theorem Lag.looks{N:Nat}{fr:Fr}{ops:List Oper}{n:Nat->Prop}{x:Nat}{T:Tr zb}{H:Heap}{p:Inj}{w:World}{arr:Array Value}(l:Lag E N fr ops n x T H p w arr)
  {j:Nat}{o:Oper} (ho:ops[j]?=some o) (hpre:∀e∈o.after.toList,Region.binds .any e=true->n e.on) {t:Nat} (hlk:looks ops o t=true) :
  TV p (tv T t) (arr.getD t undef):=by
 rcases l.tmp t with h|⟨i,y,h1,h2,h3,u⟩
 .exact h
 .exfalso;obtain⟨m,hm,c,g⟩:=zh7 E h1;have k:m.kind≠2:=fun k=>u (by rw[<- c];exact l.heavy m hm k (by rw[c];exact h3));have v:=(List.getElem?_eq_some_iff.1 ho).1;obtain⟨a,r⟩:∃a,(YW ops [])[j]?=some a:=⟨_,List.getElem?_eq_getElem (by rw[(Vc ops).2];exact v)⟩
  have b:=(WS hm k).2 t (by rw[g];exact h2) j o a ho r hlk;rw[c]at b;obtain⟨z,d,f⟩:=(Vc ops).1 j a i r b;rw[ho]at d;cases d;exact u (f n l.closed hpre)
theorem Lag.operands{N:Nat}{fr:Fr}{ops:List Oper}{i:Nat->Prop}{k:Nat}{T:Tr zb}{H:Heap}{b:Inj}{w:World}{a:Act}(h:Lag E N fr ops i k T H b w a.tmps)
  {j:Nat}{o:Oper} (ho:ops[j]?=some o) (hpre:∀e∈o.after.toList,Region.binds .any e=true->i e.on):Wz T b a.eval o.op.operands:=by
 intro x hx v hv
 cases x with
 | tmp t=>
  obtain⟨e,hn⟩:=zdl (t:=t) hv
  have d:AEv.looks ops o t=true:=by
   unfold AEv.looks;rw[zl,if_pos];rw[ztu];simpa using hx
  obtain⟨h1,h2⟩:=(h.looks ho hpre d).known (by rw[e];exact hn);rw[e]at h1 h2
  exact⟨h2,h1⟩
 | const c=>exact⟨((YD b 5000).1 c v hv).1.symm,((YD b 5000).1 c v hv).2⟩
 | global g=>
  have hv:ifB (blt g 60) (some (zb.ptr g 0)) none=some v:=hv;replace hv:=zg hv;obtain⟨h1,hv⟩:=hv;rw[zN,decide_eq_true_eq]at h1;cases hv;have hb:=h.glob.at_ g (by omega);rw[Unk.glob g h1]at hb;refine⟨?_,by simp[WF,hb]⟩
  simp[Act.eval,zc,Inj.addr,Inj.blk,Inj.sh,hb]
 | func f=>cases hv;exact⟨rfl,trivial,trivial⟩
theorem zi7{e:Inj}{T:Tr zb}{arr:Array Value}(d:Tmp)(want:Bool)(a:arr.getD d undef=zc e (tv T d))(hs:zh (T.get d) false Ya=false) :
  Uv T d want=((match arr[d]? with|some (.bool b)=>some b|_=>none)==some want):=by
 rw[getD_eq_getD_getElem?]at a;unfold Uv
 cases c:T.get d with
 | none=>
  rw[show tv T d=jf by unfold tv;rw[c];rfl]at a;rw[zm]
  cases he:arr[d]? with
  | none=>rfl
  | some x=>
   rw[he]at a;have:x=undef:=by simpa using a
   subst this
   rfl
 | some v=>
  rw[show tv T d=v by unfold tv;rw[c];rfl]at a;rw[zd]
  cases hb:asBool v with
  | some b=>
   obtain rfl:=Qv hb;rw[zd]
   have:arr[d]?=some (.bool b):=by
    cases he:arr[d]? with
    | none=>rw[he]at a;simp[zc,undef]at a
    | some x=>rw[he]at a;simp[zc]at a;rw[a]
   rw[this,XG]
   cases b<;>cases want<;>rfl
  | none=>
   rw[zm]
   cases he:arr[d]? with
   | none=>rfl
   | some x=>
    rw[he]at a;have a:x=zc e v:=by simpa using a
    subst a;cases v<;>first|rfl|(cases hb;done)|(rename_i i;rw[c,zd]at hs;cases hs;done)
theorem Lag.wanted{N:Nat}{fr:Fr}{ops:Array Oper}{f:Nat->Prop}{l:Nat}{T:Tr zb}{H:Heap}{h:Inj}{w:World}{arr:Array Value}(k:Lag E N fr ops.toList f l T H h w arr)
  {j:Nat}{o:Oper} (ho:ops.toList[j]?=some o) (hpre:∀e∈o.after.toList,Region.binds .any e=true->f e.on) (hs:∀g,o.guard=some g->zfH ops.toList T g=false):Region.wanted o (yielded ops arr)=ZA ops.toList T o:=by
 unfold Region.wanted ZA
 cases c:o.guard with
 | none=>rfl
 | some g=>
  obtain⟨i,want⟩:=g;simp only[Kk,ye];unfold yielded;rw[getElem?_toList]
  cases b:ops[i]? with
  | none=>rfl
  | some q=>
   simp only[bind_some,zd]
   cases hq:q.dst with
   | none=>rfl
   | some d=>
    simp only[bind_some,zd]
    have a:AEv.looks ops.toList o d=true:=by
     unfold AEv.looks;rw[zl];split
     .rfl
     .rw[c,zd,ye,getElem?_toList,b,zd,hq,zd,zu];simp
    have h1:=hs _ c;simp only[zfH,ye]at h1;rw[getElem?_toList,b,zd,hq,zd]at h1;obtain⟨hn,h1⟩:=za8 h1;exact(zi7 d want ((k.looks ho hpre a).known hn).2 h1).symm
end
end
section
variable[Unk]
theorem zH.back{P:Program}{z β1:Inj}(l:z.le β1){b:zo}{y:Nat×Nat×Nat}{w A:World}(h:zH P z b y w)(h1:zH P β1 b y A):zH P z b y A:=by
 cases b with
 | cells t n c=>
  obtain⟨arr,fz,_,r⟩:=h;obtain⟨f,k,m,g⟩:=h1;refine⟨f,k,m,g.size,fun i v hv=>?_,g.thaw,g.al⟩;obtain⟨C,_⟩:=r.cell i v hv;obtain⟨_,D⟩:=g.cell i v hv
  exact⟨C,by rw[D,(WF.mono l v C).2]⟩
 | map es clock=>
  obtain⟨arr,_,_,r⟩:=h;obtain⟨f,m,q1,_⟩:=h1;refine⟨f,m,?_,r⟩;rw[q1]
  exact List.map_congr_left fun e he=>zdn l e (r e he).1 (r e he).2.1
 | siter s p=>exact h1
 | text t v=>
  obtain⟨arr,fz,_,r⟩:=h;obtain⟨f,k,m,g⟩:=h1;have e:=(WF.mono l v r.wf).2
  exact⟨f,k,m,r.wf,by rw[<- e];exact g.is,g.size,by rw[<- e];exact g.cell,g.thaw,g.one⟩
 | ints t v=>
  obtain⟨arr,fz,_,r⟩:=h;obtain⟨f,k,m,g⟩:=h1;have e:=(WF.mono l v r.wf).2
  exact⟨f,k,m,r.wf,by rw[<- e];exact g.is,g.size,by rw[<- e];exact g.cell,g.thaw,g.one⟩
 | view c=>
  obtain⟨arr,t,fz,_,r⟩:=h;obtain⟨f,t1,k,m,g⟩:=h1
  exact⟨f,t1,k,m,fun i v hv=>⟨(r i v hv).1,by rw[<- (WF.mono l v (r i v hv).1).2];exact(g i v hv).2⟩⟩
 | pack t n N=>
  obtain⟨f,k,m,g⟩:=h1
  exact⟨f,k,m,g.bytes⟩
 | loop st B fn n T G as H=>
  obtain⟨tmps,d,_,r⟩:=h;obtain⟨u,d1,m,g⟩:=h1;refine⟨u,d1,m,g.size,fun i=>?_⟩;rcases r.tmp i with h|⟨h,_⟩
  .exact .inl h
  .rcases g.tmp i with h2|⟨_,h2⟩
   .exact .inl h2
   .exact .inr ⟨h,by rw[h2,(WF.mono l _ h).2]⟩
theorem zpz{r q:Row}(h:zpA r q=true):r=q:=by
 unfold zpA at h;simp only[zk,Bool.and_eq_true,zu,beq_iff_eq]at h;obtain⟨t,n,c⟩:=r;obtain⟨b,f,g⟩:=q;simp only at h;rw[h.1,h.2.1,zfy _ _ h.2.2]
section
variable{E:Env}(hE:yg E)
include hE
theorem znQ{b:Inj}{l:List zb}(h:WFs b l):∀i v,(Tr.ofList l).get i=some v->WF b v:=by
 have _:=hE;intro i v hv;rw[Tr.qc]at hv;exact(zV _ _).1 h v (List.mem_of_getElem? hv)
theorem zq5{o:Op}{rec:Rec}{T:Tr zb}{H H':Heap}{v:zb}(B:yp E o=1)(h:aop o E rec T H=some (v,H')){f:Inj}{w:World}{k:Operand->Value}(C:Wz T f k o.operands) :
  ∀q,H'.row H.next=some q->∀i u,q.c.get i=some u->WF f u:=by
 have fin:∀(t:TypeId) (l:List zb),WFs f l->∀q,(Heap.new H t l).row H.next=some q->∀i u,q.c.get i=some u->WF f u:=by
  intro t l hl q hq i u y;obtain⟨J,hb,D⟩:=QR hq;have hb:(H.blk.set H.next (.cells t (qS l 0) (Tr.ofList l))).get H.next=some J:=hb;rw[Tr.zK,if_pos rfl]at hb;cases hb;cases D;exact znQ hE hl i u y
 cases o<;>first|(exfalso;revert B;simp[yp];done)|skip
 case convert s d x=>exact absurd B (by show ifB (toInt E d) 0 2≠1;rw[zl];split<;>simp)
 case call c=>exact absurd B (by show ifB (zdG c) 0 2≠1;rw[zl];split<;>simp)
 case alloc t=>
  replace h:=ze h;obtain⟨z,g,h⟩:=h;have h:=jX h;cases h;exact fin t _ (jN (kJ hE g f w).2)
 case box t x=>
  replace h:=ze h;obtain⟨u,y,h⟩:=h;replace h:=zg h;obtain⟨_,h⟩:=h;have h:=jX h;cases h;exact fin t _ (jN (C x (by simp[Op.operands]) _ y).2)
 case buildSlice t len parts=>
  replace h:=ze h;obtain⟨d,hd,h⟩:=h;replace h:=ze h;obtain⟨e,he,h⟩:=h;replace h:=ze h;obtain⟨r,A,h⟩:=h;replace h:=ze h;obtain⟨s,hs,h⟩:=h;replace h:=ze h;obtain⟨z,g,h⟩:=h;replace h:=zg h;obtain⟨hb,h⟩:=h;rw[zk,Bool.and_eq_true,zG,decide_eq_true_eq,zu,beq_iff_eq,jE]at hb;replace h:=ze h;obtain⟨l,hl,h⟩:=h;replace h:=zg h;obtain⟨_,h⟩:=h;have h:=jX h;cases h;obtain⟨g1,I⟩:=VV (ρ:=k) parts.toList r A (fun x hx v hv=>C x (by simpa[Op.operands] using hx) v hv);have hw:=US (jN (kJ hE g f w).2) len;have hl:ze9 (VX s) (len*s) r (Q9 (zO z) len)=some l:=hl;rw[<- Xb (zO z) s hb.2 len]at hl;exact fin e l (Xo (β:=f) (VX s) r _ l hl I hw).2.1
 case makeSlice t l c=>
  replace h:=ze h;obtain⟨d,hd,h⟩:=h;replace h:=ze h;obtain⟨e,he,h⟩:=h;replace h:=ze h;obtain⟨a,D,h⟩:=h;replace h:=ze h;obtain⟨b,hb,h⟩:=h;replace h:=ze h;obtain⟨p,hp,h⟩:=h;replace h:=zg h;obtain⟨hi,h⟩:=h;replace h:=jj h;obtain⟨n,hn,h⟩:=h;replace h:=ze h;obtain⟨q,hq,h⟩:=h;replace h:=zg h;obtain⟨hj,h⟩:=h;replace h:=jj h;obtain⟨m,hm,h⟩:=h;replace h:=ze h;obtain⟨i,G,h⟩:=h;replace h:=ze h;obtain⟨z,g,h⟩:=h;replace h:=zg h;obtain⟨_,h⟩:=h;simp only[zY]at h;have h:=jX h;cases h;exact fin e _ (US (jN (kJ hE g f w).2) m)
omit hE in
theorem zmZ{a:Act}{o:Oper}{x:Value}{t:Nat}(h:o.dst≠some t):(a.put o.dst x).tmps.getD t undef=a.tmps.getD t undef:=by
 cases hd:o.dst with
 | none=>rfl
 | some d=>
  have:d≠t:=fun e=>h (by rw[hd,e]);simp[Act.put,getD_eq_getD_getElem?,this]
omit hE in
theorem Uz{a:Act}{o:Oper}{x:Value}{d:Nat}(h:o.dst=some d)(hd:d<a.tmps.size):(a.put o.dst x).tmps.getD d undef=x:=by
 simp[h,Act.put,getD_eq_getD_getElem?,hd]
omit hE in
theorem zhy(a:Act)(dst:Option Tmp)(x:Value):(a.put dst x).tmps.size=a.tmps.size:=by cases dst<;>simp[Act.put]
omit hE in
theorem zdw{ops:List Oper}{Dc:Nat->Prop}(h:Ki ops Dc){i:Nat}{o:Oper}(ho:ops[i]?=some o)(hpre:∀e∈o.after.toList,Region.binds .any e=true->Dc e.on):Ki ops fun j=>Dc j\/j=i:=by
 rintro j o' hj (hd|rfl) e he hb
 .exact .inl (h j o' hj hd e he hb)
 .rw[ho]at hj;cases hj;exact .inl (hpre e he hb)
theorem Lag.same{N:Nat}{fr:Fr}{ops:List Oper}(n:Qk ops=true){Dc:Nat->Prop}{p:Nat}{T:Tr zb}{H:Heap}{u β1:Inj}{w y:World}{a:Act}(b:Lag E N fr ops Dc p T H u w a.tmps)
  {m:OpM} (hm:m∈qC E ops) (hb:bit p m.i=true) (hpre:∀e∈m.o.after.toList,Region.binds .any e=true->Dc e.on) {v:zb} (hv:WF β1 v) (hR:Rel E.P β1 H y) (hle:u.le β1)
  (hG:Yv E β1 H) (hT:∀d,m.o.dst=some d->tv T d=v) (hrow:∀f∈qC E ops,f.kind=1->bit p f.i=true->¬(Dc f.i\/f.i=m.i)->∀d,f.o.dst=some d->∀c,bid (tv T d)=some c->β1 c=none) :
  Lag E N fr ops (fun j=>Dc j\/j=m.i) p T H β1 y (a.put m.o.dst (zc β1 v)).tmps:=by
 have _:=n;have _:=hE;obtain⟨g1,_⟩:=ju hm;refine⟨hR,hG,by rw[zhy];exact b.size,?_,?_,zdw b.closed g1 hpre,?_,?_,b.nn,?_,b.lt,b.order⟩
 .intro t;by_cases hd:m.o.dst=some t
  .left;rw[hT t hd];refine .inr ⟨hv,Uz hd ?_⟩;rw[b.size];exact b.lt m.i m.o t g1 hb hd
  .rw[zmZ hd];rcases b.tmp t with h|⟨i,o,h1,h2,h3,G⟩
   .exact .inl (h.mono hle)
   .refine .inr ⟨i,o,h1,h2,h3,?_⟩;rintro(h|rfl)
    .exact G h
    .rw[g1]at h1;cases h1;exact hd h2
 .rintro i (h|rfl)
  .exact b.sub i h
  .exact hb
 .intro f g k l;exact .inl (b.heavy f g k l)
 .intro f g k l hn d hd c hc;obtain⟨_,I,c3⟩:=b.rows f g k l (fun h=>hn (.inl h)) d hd c hc;exact⟨hrow f g k l hn d hd c hc,I,c3⟩
 .intro C r B hm2 D k2 K J A z;exact b.apart C r B hm2 D k2 K J (fun h=>A (.inl h)) (fun h=>z (.inl h))
theorem zjY{l β1:Inj}{H:Heap}{w C:World}(hR:Rel E.P l H w){b:zo}(p:Rel E.P β1 ⟨H.blk.set H.next b,H.next+1⟩ C)(G:Ext l H w β1 ⟨H.blk.set H.next b,H.next+1⟩ C)
  {x:Nat×Nat×Nat} (hx:β1 H.next=some x) {q:Row} (hbq:b = .cells q.t q.n q.c) (hq:∀i u,q.c.get i=some u->WF l u) {c:Nat} (hc:l c=none) (hcl:c<H.next) (hrow:H.row c=some q) :
  Rel E.P (l.put c x) H C/\w.heap.size<=x.1:=by
 have _:=hE;have g:l.le β1:=G.le hR.bnd;have m:l.le (l.put c x):=Inj.kX hc;have hself:(H.blk.set H.next b).get H.next=some b:=by rw[Tr.zK,if_pos rfl]
 have hold:∀ {id k},H.blk.get id=some k->(H.blk.set H.next b).get id=some k:=by
  intro id k h;have:=hR.live _ _ h;rw[Tr.zK,if_neg (by omega)];exact h
 have f:∀ {id k y},H.blk.get id=some k->l id=some y->y.1≠x.1:=by
  intro id k y h1 h2 e;have:=p.Ze (.inr hR.base) (hold h1) (g _ _ h2) hself hx e;have:=hR.live _ _ h1;omega
 have v:w.heap.size<=x.1:=by
  rcases G.new H.next x (Nat.le_refl _) hx with h|⟨i,k,y,_,h1,h2,h3⟩
  .exact h
  .exact absurd h3 (f h1 h2)
 refine⟨⟨hR.base,?_,?_,?_,hR.live⟩,v⟩
 .intro id k y h1 h2;by_cases hid:id=c
  .subst hid;rw[Inj.zL]at h2;cases h2;obtain⟨N,A,J⟩:=QR hrow;rw[h1]at A;cases A;refine(zat J).2 ?_;obtain⟨arr,fz,L,B⟩:=p.blk H.next b x hself hx |> fun h=>by rw[hbq]at h;exact h
   refine⟨arr,fz,L,B.size,fun i u D=>?_,B.thaw,B.al⟩;obtain⟨_,K⟩:=B.cell i u D;have hw:=hq i u D;obtain⟨I,k2⟩:=WF.mono m u hw;exact⟨I,by rw[K,(WF.mono g u hw).2,k2]⟩
  .rw[Inj.qg _ _ hid]at h2;exact((hR.blk id k y h1 h2).back g (p.blk id k y (hold h1) (g _ _ h2))).mono m
 .intro i j bi M y z h1 h2 h3 r e;by_cases hi:i=c
  .by_cases hj:j=c
   .exact .inl (by rw[hi,hj])
   .subst hi;rw[Inj.zL]at h2;cases h2;rw[Inj.qg _ _ hj]at r;exact absurd e.symm (f h3 r)
  .rw[Inj.qg _ _ hi]at h2;by_cases hj:j=c
   .subst hj;rw[Inj.zL]at r;cases r;exact absurd e (f h1 h2)
   .rw[Inj.qg _ _ hj]at r;exact hR.inj i j bi M y z h1 h2 h3 r e
 .intro id y h;by_cases hid:id=c
  .omega
  .rw[Inj.qg _ _ hid]at h;exact hR.bnd id y h
theorem Lag.step{N : Nat}{fr : Fr}{ops : Array Oper}(G : Qk ops.toList = true){Dc : Nat -> Prop}{Da : Nat}{T : Tr zb}{H : Heap}{Y : Inj}{w : World}{a : Act}(f : Lag E N fr ops.toList Dc Da T H Y w a.tmps)
    {m : OpM} (hm : m ∈ qC E ops.toList) (hk : m.kind ≠ 2) (hb : bit Da m.i = true) (hn : ¬Dc m.i) (hpre : ∀e ∈ m.o.after.toList, Region.binds .any e = true -> Dc e.on)
    (hag : again E ops.toList T H (isK 1 m) m.o = true) {β0 : Inj} {H0 : Heap} {w0 : World} (hX0 : Ext β0 H0 w0 Y H w) (hN : H0.next = N) (b : Frame) (rest : List Nat) (k : List Item) (cs : List Frame) :
    ∃β' w' L, Lag E N fr ops.toList (fun j => Dc j \/ j = m.i) Da T H β' w' L.tmps /\ Ext β0 H0 w0 β' H w' /\ L.defers = a.defers /\
      Steps E.P (lone (b.atR a (.inRegion ops (m.i :: rest) :: k)) cs w) (lone (b.atR L (.inRegion ops rest :: k)) cs w') := by
  obtain⟨g1, _⟩ := ju hm;have ho : ops[m.i]?=some m.o := by rw[<- getElem?_toList]; exact g1
  have hsg := zji hag;have hw := f.wanted g1 hpre hsg;obtain⟨I, _⟩ := WS hm hk
  have Z : ZA ops.toList T m.o = false -> sameAs T m.o.dst jf = true -> ∃β' w' L, Lag E N fr ops.toList (fun j => Dc j \/ j = m.i) Da T H β' w' L.tmps /\ Ext β0 H0 w0 β' H w' /\ L.defers = a.defers /\
      Steps E.P (lone (b.atR a (.inRegion ops (m.i :: rest) :: k)) cs w) (lone (b.atR L (.inRegion ops rest :: k)) cs w') := by
    intro hf hs;have r := stepR_op_skip (P := E.P) (b := b) (a := a) (k := k) (cs := cs) (w := w) (ops := ops) (i := m.i) (rest := rest) (by rw[ho]; simp only[map_some, getD_some]; rw[hw]; exact hf);rw[ho] at r;simp only[bind_some] at r
    have := f.same hE G hm hb hpre (v := jf) (by simp) f.rel (Inj.le.refl _) f.glob (by
      intro d hd;unfold sameAs at hs;rw[hd, zd] at hs;unfold tv
      cases Q : T.get d with
      | none => rfl
      | some u => rw[Q, zd] at hs; rw[zM _ _ hs]; rfl) (fun m' A B C z d hd c hc => (f.rows m' A B C (fun h => z (.inl h)) d hd c hc).1)
    rw[Xx] at this;exact⟨Y, w, _, this, hX0, put_defers _ _ _, .one r⟩
  have D : ZA ops.toList T m.o = true -> zgL E T H (isK 1 m) m.o = true -> ∃β' w' L, Lag E N fr ops.toList (fun j => Dc j \/ j = m.i) Da T H β' w' L.tmps /\ Ext β0 H0 w0 β' H w' /\ L.defers = a.defers /\
      Steps E.P (lone (b.atR a (.inRegion ops (m.i :: rest) :: k)) cs w) (lone (b.atR L (.inRegion ops rest :: k)) cs w') := by
    intro hf hs;unfold zgL at hs
    cases hx : aop m.o.op E ZP T H with
    | none => rw[hx] at hs; cases hs
    | some p =>
      obtain⟨v, H1⟩ := p;rw[hx, zd] at hs;have U := f.operands g1 hpre
      have hcall : ∀c, m.o.op = .call c -> ∃bb, c.callee = .builtin bb := by
        rcases I with⟨_, h0⟩|⟨_, h1, _⟩
        · exact(KY h0 hx).2
        · exact fun c hc => absurd hc ((Wh h1 hx).2.2 c)
      obtain⟨x, w1, ⟨β1, rfl, r1, r2, M⟩, hst⟩ := (zfs hE f.rel f.glob.facts hx U hcall).res.steps (b := b) (rest := rest) (k := k) (cs := cs) ho (hw.trans hf) (zav hx);have hle1 := M.le f.rel.bnd;rcases I with⟨hk0, h0⟩|⟨hk1, h1, d, hd⟩
      ·
        obtain⟨rfl, _⟩ := KY h0 hx;have hz : isK 1 m = false := by unfold isK; rw[hk0]; rfl
        rw[hz, kT] at hs
        have := f.same hE G hm hb hpre r1 r2 hle1 (f.glob.ext f.rel.bnd M) (by
          intro d hd;unfold sameAs at hs;rw[hd, zd] at hs;unfold tv
          cases Q : T.get d with
          | none => rw[Q] at hs; cases hs
          | some u => rw[Q, zd] at hs; rw[zM _ _ hs]; rfl) (fun m' A B C z d hd c hc => by
            obtain⟨c1, c2, _⟩ := f.rows m' A B C (fun h => z (.inl h)) d hd c hc
            rw[M.old c c2]; exact c1)
        exact⟨β1, w1, _, this, hX0.trans M, put_defers _ _ _, hst⟩
      ·
        have hz : isK 1 m = true := by unfold isK; rw[hk1]; rfl
        rw[hz, qK] at hs;obtain⟨⟨t, n, cc, rfl⟩, hvf, _⟩ := Wh h1 hx;unfold zlY at hs;rw[hd, zd] at hs
        cases Q : T.get d with
        | none => rw[Q] at hs; cases hs
        | some u =>
          rw[Q, zd] at hs
          cases hu : bid u with
          | none => rw[hu] at hs; cases hs
          | some c =>
            rw[hu, zd] at hs
            cases hrc : H.row c with
            | none => rw[hrc] at hs; cases hs
            | some q =>
              rw[hrc, zd] at hs
              cases O : (Heap.row ⟨H.blk.set H.next (.cells t n cc), H.next + 1⟩ H.next) with
              | none => simp only[O] at hs; cases hs
              | some q' =>
                simp only[O, zd] at hs;rw[zk, Bool.and_eq_true] at hs;have hre := zM _ _ hs.1;have hqq := zpz hs.2;subst hqq;have htv : tv T d = u := by unfold tv; rw[Q]; rfl
                obtain⟨c1, c2, c3⟩ := f.rows m hm hk1 hb hn d hd c (by rw[htv]; exact hu);have hwf := zq5 hE h1 hx (w := w) U q O
                have hbk : zo.cells t n cc = .cells q.t q.n q.c := by
                  obtain⟨b0, this, ha⟩ := QR O;have this : (H.blk.set H.next (.cells t n cc)).get H.next = some b0 := this;rw[Tr.zK, if_pos rfl] at this;cases this;cases ha;rfl
                have hsome : (β1 H.next).isSome := by
                  rcases hvf with rfl|⟨l, cp, rfl⟩
                  · exact r1
                  · exact r1.1
                obtain⟨x, hx1⟩ := Option.isSome_iff_exists.1 hsome;obtain⟨k1, k2⟩ := zjY hE f.rel r2 M hx1 hbk hwf c1 c2 hrc
                have hcv : WF (Y.put c x) u /\ zc (Y.put c x) u = zc β1 v := by
                  rw[<- hre];rcases hvf with rfl|⟨l, cp, rfl⟩
                  · refine⟨by simp[zs2, WF, Inj.zL], ?_⟩
                    simp[zs2, zc, Inj.addr, Inj.blk, Inj.sh, Inj.zL, hx1]
                  · refine⟨⟨by simp[Inj.zL], r1.2⟩, ?_⟩
                    simp[zs2, zc, Inj.addr, Inj.blk, Inj.sh, Inj.zL, hx1]
                have hgl : Yv E (Y.put c x) H := by
                  refine⟨fun g hg => ?_, f.glob.next, f.glob.facts.mono (Inj.kX c1), f.glob.tabs, f.glob.alts.mono (Inj.kX c1)⟩;rw[Inj.qg]
                  · exact f.glob.at_ g hg
                  · rintro rfl
                    rw[f.glob.at_ g hg] at c1;cases c1
                have := f.same hE G hm hb hpre (v := u) hcv.1 k1 (Inj.kX c1) hgl (by
                  intro d' J;rw[hd] at J;cases J
                  exact htv) (fun m' A B C z d' J c' K => by
                    obtain⟨e1, _, _⟩ := f.rows m' A B C (fun h => z (.inl h)) d' J c' K
                    have hne : c' ≠ c := by
                      rintro rfl
                      exact f.apart m hm m' A hk1 B hb C hn (fun h => z (.inl h)) (fun e => z (.inr e.symm)) d d' hd J c' (by rw[htv]; exact hu) K
                    rw[Inj.qg _ _ hne]; exact e1)
                rw[hcv.2] at this;refine⟨Y.put c x, w1, _, this, ?_, put_defers _ _ _, hst⟩;refine⟨fun id hid => ?_, hX0.next, hX0.apart, hX0.gone, hX0.ro, fun id y hid hy => ?_, fun c' K hr => ?_, Nat.le_trans hX0.size M.size, M.tape.trans hX0.tape, M.os.trans hX0.os, M.output.trans hX0.output⟩
                · rw[Inj.qg _ _ (by omega)]; exact hX0.old id hid
                · by_cases X : id = c
                  · subst X
                    rw[Inj.zL] at hy;cases hy;exact .inl (Nat.le_trans hX0.size k2)
                  · rw[Inj.qg _ _ X] at hy
                    exact hX0.new id y hid hy
                · rw[M.frame c' (Nat.lt_of_lt_of_le K hX0.size) ?_]
                  · exact hX0.frame c' K hr
                  · intro hr'
                    rcases hX0.zpT hr' with h|h
                    · omega
                    · exact hr h
  unfold again at hag;unfold ZA at Z D
  cases hg : m.o.guard with
  | none =>
    rw[hg] at hag D
    exact D rfl hag
  | some g =>
    rw[hg, zd, zl, if_neg (by rw[hsg g hg]; decide), zl] at hag;rw[hg] at D Z;split at hag
    · rename_i h; exact D h hag
    · rename_i h; exact Z (by simpa using h) hag
end
end
section
variable[Unk]
section
variable{E:Env}(hE:yg E)
include hE
omit hE in
theorem Lag.both{N:Nat}{fr:Fr}{ops:List Oper}(hone:Qk ops=true){Dc:Nat->Prop}{Da:Nat}{T:Tr zb}{H H1:Heap}{β β1:Inj}{w w1:World}{a:Act}(hL:Lag E N fr ops Dc Da T H β w a.tmps)
  {m:OpM} (hm:m∈qC E ops) (hb:bit Da m.i=false) (hpre:∀e∈m.o.after.toList,Region.binds .any e=true->Dc e.on) (hpreA:Vz m.pre Da=true) {v:zb} (hv:WF β1 v) (hR:Rel E.P β1 H1 w1)
  (hX:Ext β H w β1 H1 w1) (hlt:∀d,m.o.dst=some d->d<fr.n) :
  Lag E N fr ops (fun j=>Dc j\/j=m.i) (Ke Da m.i) (zcf T m.o v) H1 β1 w1 (a.put m.o.dst (zc β1 v)).tmps:=by
 obtain⟨g1,g2,g3,g4⟩:=ju hm;have hle:=hX.le hL.rel.bnd
 have old:∀ {i o t},ops[i]?=some o->o.dst=some t->i≠m.i->tv (zcf T m.o v) t=tv T t:=by
  intro i o t hi hd hne;apply Qx;intro hd';exact hne (zaM hone i m.i o m.o t hi g1 hd hd')
 have hbit:∀i,bit (Ke Da m.i) i=true->i≠m.i->bit Da i=true:=by
  intro i hi hne;rw[XF,Bool.or_eq_true,decide_eq_true_eq]at hi;rcases hi with hi|hi
  .exact hi
  .exact absurd hi.symm hne
 have hadd:∀i,bit Da i=true->bit (Ke Da m.i) i=true:=fun i hi=>by rw[XF,hi];rfl
 have hself:bit (Ke Da m.i) m.i=true:=by rw[XF];simp
 refine⟨hR,hL.glob.ext hL.rel.bnd hX,by rw[zhy];exact hL.size,?_,?_,zdw hL.closed g1 hpre,?_,?_,Nat.le_trans hL.nn hX.next,?_,?_,zeN g1 (by rw[<- g3];exact hpreA) hL.order⟩
 .intro t;by_cases hd:m.o.dst=some t
  .left;rw[Q5 hd];refine .inr ⟨hv,Uz hd ?_⟩;rw[hL.size];exact hlt t hd
  .rw[zmZ hd,Qx hd];rcases hL.tmp t with h|⟨i,o,h1,h2,h3,h4⟩
   .exact .inl (h.mono hle)
   .refine .inr ⟨i,o,h1,h2,hadd i h3,?_⟩;rintro(h|rfl)
    .exact h4 h
    .rw[hb]at h3;cases h3
 .rintro i (h|rfl)
  .exact hadd i (hL.sub i h)
  .exact hself
 .intro m' hm' hk' hb';by_cases hi:m'.i=m.i
  .exact .inr hi
  .exact .inl (hL.heavy m' hm' hk' (hbit _ hb' hi))
 .intro m' hm' hk' hb' hn d hd c hc;have hi:m'.i≠m.i:=fun h=>hn (.inr h);obtain⟨q1,_⟩:=ju hm';rw[old q1 hd hi]at hc;obtain⟨c1,c2,c3⟩:=hL.rows m' hm' hk' (hbit _ hb' hi) (fun h=>hn (.inl h)) d hd c hc;exact⟨by rw[hX.old c c2];exact c1,Nat.lt_of_lt_of_le c2 hX.next,c3⟩
 .intro m1 hm1 m2 hm2 k1 k2 b1 b2 n1 n2 hne d1 d2 e1 e2 c hc;have h1:m1.i≠m.i:=fun h=>n1 (.inr h);have h2:m2.i≠m.i:=fun h=>n2 (.inr h);obtain⟨q1,_⟩:=ju hm1;obtain⟨q2,_⟩:=ju hm2;rw[old q1 e1 h1]at hc;rw[old q2 e2 h2];exact hL.apart m1 hm1 m2 hm2 k1 k2 (hbit _ b1 h1) (hbit _ b2 h2) (fun h=>n1 (.inl h)) (fun h=>n2 (.inl h)) hne d1 d2 e1 e2 c hc
 .intro i o d hi hbi hd;by_cases he:i=m.i
  .subst he;rw[g1]at hi;cases hi;exact hlt d hd
  .exact hL.lt i o d hi (hbit _ hbi he) hd
omit hE in
theorem Lag.zn8{rec:Rec}(hO:UG E rec){N:Nat}{fr:Fr}{ops:Array Oper}(hone:Qk ops.toList=true){Dc:Nat->Prop}{Da:Nat}{T:Tr zb}{H:Heap}{β:Inj}{w:World}{a:Act}(hL:Lag E N fr ops.toList Dc Da T H β w a.tmps)
  {m:OpM} (hm:m∈qC E ops.toList) (hb:bit Da m.i=false) (hpre:∀e∈m.o.after.toList,Region.binds .any e=true->Dc e.on) (hpreA:Vz m.pre Da=true)
  {K:zgT}{r:jk} (he:zbr E rec fr.n ops.toList m.o K T H=r) (hr:r≠.fail) {β0:Inj}{H0:Heap}{w0:World} (hX0:Ext β0 H0 w0 β H w) (b:Frame) (rest:List Nat) (k:List Item) (cs:List Frame) :
  ∃T' H' β' w' a',K T' H'=r/\Lag E N fr ops.toList (fun j=>Dc j\/j=m.i) (Ke Da m.i) T' H' β' w' a'.tmps/\Ext β0 H0 w0 β' H' w'/\a'.defers=a.defers /\
   Steps E.P (lone (b.atR a (.inRegion ops (m.i::rest)::k)) cs w) (lone (b.atR a' (.inRegion ops rest::k)) cs w'):=by
 obtain⟨g1,_⟩:=ju hm;have ho:ops[m.i]?=some m.o:=by rw[<- getElem?_toList];exact g1
 have hw:=hL.wanted g1 hpre (zlx he hr);obtain⟨v,H1,hK,hlt,hc⟩:=Kc he hr;rcases hc with⟨hf,hx⟩|⟨hf,rfl,rfl⟩
 .obtain⟨x,w1,⟨β1,rfl,r1,r2,r3⟩,hst⟩:=(hO β H w T m.o a.eval v H1 hL.rel hL.glob (hL.operands g1 hpre) hx).steps (b:=b) (rest:=rest) (k:=k) (cs:=cs) ho (hw.trans hf) (zav hx);exact⟨zcf T m.o v,H1,β1,w1,_,hK,hL.both hone hm hb hpre hpreA r1 r2 r3 hlt,hX0.trans r3,put_defers _ _ _,hst⟩
 .have hstep:=stepR_op_skip (P:=E.P) (b:=b) (a:=a) (k:=k) (cs:=cs) (w:=w) (ops:=ops) (i:=m.i) (rest:=rest) (by rw[ho];simp only[map_some,getD_some];rw[hw];exact hf);rw[ho]at hstep;simp only[bind_some]at hstep;have hl:=hL.both hone hm hb hpre hpreA (v:=jf) (by simp) hL.rel (.refl _ _ _ hL.rel.bnd) hlt;rw[Xx]at hl;exact⟨zcf T m.o jf,H1,β,w,_,hK,hl,hX0,put_defers _ _ _,.one hstep⟩
omit hE in
theorem Ext.zfX{β0 β:Inj}{H0 H H':Heap}{w0 w:World}(hb:100<=H.next)(h:Ext β0 H0 w0 β H w)(hH:H'=H\/∃b,H'=⟨H.blk.set H.next b,H.next+1⟩):Ext β0 H0 w0 β H' w:=by
 rcases hH with rfl|⟨b,rfl⟩
 .exact h
 .have hn:=h.next
  have hget:∀id,id<H0.next->(H.blk.set H.next b).get id=H.blk.get id:=by
   intro id hid;rw[Tr.zK,if_neg (by omega)]
  have hget60:∀id,id<100->(H.blk.set H.next b).get id=H.blk.get id:=by
   intro id hid;rw[Tr.zK,if_neg (by omega)]
  exact⟨h.old,le_succ_of_le hn,fun id hid e=>(hget id hid).trans (h.apart id hid e),fun id c hid e=>h.gone id c hid ((hget id hid).symm.trans e),(fun id hid=>(hget60 id hid).trans (h.ro id hid)),h.new,h.frame,h.size,h.tape,h.os,h.output⟩
omit hE in
theorem zhE{rec:Rec}{N:Nat}{fr:Fr}{ops:List Oper}(hone:Qk ops=true){Dc:Nat->Prop}{β:Inj}{w:World}{arr:Array Value}{K:DrF}{r:jk}(hr:r≠.fail){β0:Inj}{H0:Heap}{w0:World} :
  ∀(l:List OpM),(∀m∈l,m∈qC E ops)->∀(Da:Nat) (T:Tr zb) (H:Heap),zaI E rec fr.n ops K l Da T H=r->Lag E N fr ops Dc Da T H β w arr->Ext β0 H0 w0 β H w ->
   ∃Da' T' H',K Da' T' H'=r/\Lag E N fr ops Dc Da' T' H' β w arr/\Ext β0 H0 w0 β H' w:=by
 intro l
 induction l with
 | nil=>intro _ Da T H h hL hX;exact⟨Da,T,H,h,hL,hX⟩
 | cons m l ih=>
  intro hml Da T H h hL hX;have e0:zaI E rec fr.n ops K (m::l) Da T H=ifB (bit Da m.i) (zaI E rec fr.n ops K l Da T H) (ifB (zn (kI (isK 2 m)) (Vz m.pre Da)) (zbr E rec fr.n ops m.o (fun T H=>zaI E rec fr.n ops K l (Ke Da m.i) T H) T H) (zaI E rec fr.n ops K l Da T H)):=rfl;rw[e0,zl]at h;have hml':∀m∈l,m∈qC E ops:=fun m' hm'=>hml m' (by simp[hm']);split at h
  .exact ih hml' Da T H h hL hX
  .rename_i hb;rw[zl]at h;split at h
   .rename_i hc;rw[zk,Bool.and_eq_true,qI]at hc;obtain⟨hk,hp⟩:=hc;have hm:=hml m (by simp)
    have hk:m.kind≠2:=by
     intro hk2;unfold isK at hk;rw[hk2]at hk;cases hk
    obtain⟨v,H1,hK,hlt,hx⟩:=Kc h hr
    have hx':(aop m.o.op E rec T H=some (v,H1))\/(v=jf/\H1=H):=by
     rcases hx with⟨_,hx⟩|⟨_,hx⟩
     .exact .inl hx
     .exact .inr hx
    have hH:H1=H\/∃b,H1=⟨H.blk.set H.next b,H.next+1⟩:=by
     rcases hx' with hx|⟨_,rfl⟩
     .rcases(WS hm hk).1 with⟨_,h0⟩|⟨_,h1,_⟩
      .exact .inl (KY h0 hx).1
      .obtain⟨⟨t,n,c,e⟩,_⟩:=Wh h1 hx;exact .inr ⟨_,e⟩
     .exact .inl rfl
    exact ih hml' (Ke Da m.i) (zcf T m.o v) H1 hK (hL.zvN hone hm hk (by simpa using hb) hp hlt hx') (hX.zfX hL.rel.base hH)
   .exact ih hml' Da T H h hL hX
omit hE in
theorem zjh{ops:List Oper}{HA D:Nat}{T:Tr zb}{H:Heap}:∀ {l:List OpM},zdP E ops HA D T H l=true->∀m∈l,m.kind≠2->bit D m.i=true->bit HA m.i=false->again E ops T H (isK 1 m) m.o=true:=by
 intro l
 induction l with
 | nil=>intro _ m h;cases h
 | cons x l ih=>
  intro h m hm hk hb ha;have e0:zdP E ops HA D T H (x::l)=ifB (zn (kI (isK 2 x)) (zn (bit D x.i) (kI (bit HA x.i)))) (ifB (again E ops T H (isK 1 x) x.o) (zdP E ops HA D T H l) false) (zdP E ops HA D T H l):=rfl;rw[e0,zl]at h;rcases List.mem_cons.1 hm with rfl|hm
  .rw[if_pos]at h
   .rw[zl]at h;split at h
    .assumption
    .cases h
   .have hk2:isK 2 m=false:=by
     unfold isK;rw[zu];simpa using hk
    rw[hk2,hb,ha];rfl
  .split at h
   .rw[zl]at h;split at h
    .exact ih h m hm hk hb ha
    .cases h
   .exact ih h m hm hk hb ha
omit hE in
theorem Xq{D:Nat}:∀ {l:List OpM}{m:OpM},m∈enabled D l↔m∈l/\bit D m.i=false/\Vz m.pre D=true:=by
 intro l
 induction l with
 | nil=>intro m;simp[enabled]
 | cons x l ih=>
  intro m;have e0:enabled D (x::l)=ifB (zn (kI (bit D x.i)) (Vz x.pre D)) (x::enabled D l) (enabled D l):=rfl;rw[e0,zl,zk,qI];by_cases hc:(!bit D x.i&&Vz x.pre D)=true
  .rw[if_pos hc,mem_cons,mem_cons,ih];rw[Bool.and_eq_true]at hc;constructor
   .rintro(rfl|⟨h1,h2⟩)
    .exact⟨.inl rfl,by simpa using hc.1,hc.2⟩
    .exact⟨.inr h1,h2⟩
   .rintro⟨rfl|h1,h2⟩
    .exact .inl rfl
    .exact .inr ⟨h1,h2⟩
  .rw[if_neg hc,mem_cons,ih];constructor
   .rintro⟨h1,h2⟩;exact⟨.inr h1,h2⟩
   .rintro⟨rfl|h1,h2,h3⟩
    .exact absurd (by rw[h2,h3];rfl) hc
    .exact⟨h1,h2,h3⟩
structure Kh(ops:Array Oper)(Dc:Nat->Prop)(listed:Array Bool):Prop where
 size:listed.size=ops.size
 iff:∀i,listed[i]?=some true↔Dc i
omit hE in
theorem Kh.add{ops:Array Oper}{Dc:Nat->Prop}{listed:Array Bool}(h:Kh ops Dc listed){i:Nat}(hi:i<ops.size):Kh ops (fun j=>Dc j\/j=i) (listed.setIfInBounds i true) where
 size:=by simpa using h.size
 iff:=fun j=>by
  rw[getElem?_setIfInBounds];by_cases hj:i=j
  .subst hj;rw[if_pos rfl,if_pos (by rw[h.size];exact hi)];simp
  .rw[if_neg hj,h.iff];constructor
   .exact .inl
   .rintro(h'|rfl)
    .exact h'
    .exact absurd rfl hj
omit hE in
theorem VD{ops:Array Oper}{Dc:Nat->Prop}{listed:Array Bool}(h:Kh ops Dc listed){i:Nat}:i∈ready .any ops listed↔¬Dc i/\∃o,ops[i]?=some o/\∀e∈o.after.toList,Region.binds .any e=true->Dc e.on:=by
 unfold ready;rw[List.mem_filter,List.mem_range,Bool.and_eq_true]
 have hg:∀j,listed.getD j false=true↔Dc j:=by
  intro j;rw[<- h.iff,getD_eq_getD_getElem?];cases listed[j]? <;> simp
 constructor
 .rintro⟨h1,h2,h3⟩
  have ho:ops[i]?=some ops[i]:=Array.getElem?_eq_getElem h1;rw[ho]at h3;simp only[map_some,getD_some]at h3;refine⟨fun hd=>?_,ops[i],ho,fun e he hb=>?_⟩
  .rw[getD_eq_getD_getElem?,(h.iff i).2 hd]at h2;simp at h2
  .rw[<- all_toList]at h3;have:=List.all_eq_true.1 h3 e he;rw[hb]at this;exact(hg _).1 (by simpa using this)
 .rintro⟨h1,o,ho,h2⟩
  have hlt:=(Array.getElem?_eq_some_iff.1 ho).1;refine⟨hlt,?_,?_⟩
  .rw[getD_eq_getD_getElem?];have:listed[i]?≠some true:=fun e=>h1 ((h.iff i).1 e);obtain⟨bv,hs⟩:∃bv,listed[i]?=some bv:=⟨_,Array.getElem?_eq_getElem (by rw[h.size];exact hlt)⟩
   rw[hs]at this ⊢;simp at this ⊢;exact this
  .rw[ho];simp only[map_some,getD_some];rw[<- all_toList,List.all_eq_true];intro e he;by_cases hb:Region.binds .any e=true
   .rw[(hg _).2 (h2 e he hb)];simp
   .simp[hb]
omit hE in
theorem zoh{Dc:Nat->Prop}:∀(L:List Nat),(∃j∈L,¬Dc j)->∃L1 j L2,L=L1++j::L2/\¬Dc j/\∀i∈L1,Dc i:=by
 intro L
 induction L with
 | nil=>rintro⟨j,h,_⟩;cases h
 | cons x L ih=>
  rintro⟨j,h1,h2⟩
  by_cases hx:Dc x
  .rcases List.mem_cons.1 h1 with rfl|h1
   .exact absurd hx h2
   .obtain⟨L1,i,L2,e,a1,a2⟩:=ih ⟨j,h1,h2⟩;refine⟨x::L1,i,L2,by rw[e];rfl,a1,?_⟩;intro y hy;rcases List.mem_cons.1 hy with rfl|hy
    .exact hx
    .exact a2 y hy
  .exact⟨[],x,L,rfl,hx,by simp⟩
omit hE in
theorem zjN{rec:Rec}{N:Nat}{fr:Fr}{ops:Array Oper}{Dc:Nat->Prop}{Da:Nat}{T:Tr zb}{H:Heap}{β:Inj}{w:World}{arr:Array Value}(hL:Lag E N fr ops.toList Dc Da T H β w arr)
  {listed:Array Bool} (hl:Kh ops Dc listed) (hn:ready .any ops listed=[]) {next:Nat->DrF}{HA:Nat}{r:jk} (h:Yo next E rec fr.n ops.toList (qC E ops.toList) HA Da T H=r) (hr:r≠.fail) :
  ∀i,i<ops.size->Dc i:=by
 obtain⟨L,hL1,hL2⟩:=hL.order;by_cases hp:∃j∈L,¬Dc j
 .exfalso;obtain⟨L1,j,L2,e,a1,a2⟩:=zoh L hp;obtain⟨o,ho,hpre⟩:=hL2 L1 j L2 e;have:j∈ready .any ops listed:=(VD hl).2 ⟨a1,o,by rw[<- getElem?_toList];exact ho,fun e he hb=>a2 _ (hpre e he hb)⟩;rw[hn]at this;cases this
 .have hall:∀j,bit Da j=true->Dc j:=fun j hj=>Classical.byContradiction fun hd=>hp ⟨j,(hL1 j).1 hj,hd⟩;unfold Yo at h;rw[zl]at h;split at h
  case isFalse=>exact absurd h.symm hr
  revert h
  cases hen:enabled Da (qC E ops.toList) with
  | nil=>
   intro h;rw[zgb,zl]at h;split at h
   .rename_i hf;rw[jE]at hf;intro i hi;exact hall i (zsm hf (by simpa using hi))
   .exact absurd h.symm hr
  | cons m l=>
   intro _;exfalso;have hm:m∈enabled Da (qC E ops.toList):=by rw[hen];simp
   obtain⟨h1,h2,h3⟩:=Xq.1 hm;obtain⟨g1,_,g3,_⟩:=ju h1
   have:m.i∈ready .any ops listed:=(VD hl).2 ⟨fun hd=>(by rw[hL.sub _ hd]at h2;cases h2),m.o,by rw[<- getElem?_toList];exact g1,fun e he hb=>
    hall _ (zfJ h3 (by rw[g3];exact(zbv _ _).2 ⟨e,he,hb,rfl⟩))⟩
   rw[hn]at this;cases this
omit hE in
theorem zeu{rec:Rec}{N:Nat}{fr:Fr}{ops:Array Oper}{Dc:Nat->Prop}{Da:Nat}{T:Tr zb}{H:Heap}{β:Inj}{w:World}{arr:Array Value}(hL:Lag E N fr ops.toList Dc Da T H β w arr)
  (hall:∀i,i<ops.size->Dc i) {next:Nat->DrF}{HA:Nat}{r:jk} (h:Yo next E rec fr.n ops.toList (qC E ops.toList) HA Da T H=r) (hr:r≠.fail) :
  r = .nrm T H/\yh β fr.n T arr:=by
 refine⟨?_,hL.size,fun t=>?_⟩
 .unfold Yo at h;rw[zl]at h;split at h
  case isFalse=>exact absurd h.symm hr
  have hen:enabled Da (qC E ops.toList)=[]:=by
   cases hen:enabled Da (qC E ops.toList) with
   | nil=>rfl
   | cons m l=>
    exfalso;have hm:m∈enabled Da (qC E ops.toList):=by rw[hen];simp
    obtain⟨h1,h2,h3⟩:=Xq.1 hm;obtain⟨g1,_⟩:=ju h1;have hlt:=(List.getElem?_eq_some_iff.1 g1).1;rw[hL.sub _ (hall _ (by simpa using hlt))]at h2;cases h2
  rw[hen,zgb,zl]at h;split at h
  .exact h.symm
  .exact absurd h.symm hr
 .rcases hL.tmp t with h|⟨i,o,h1,_,_,h4⟩
  .exact h
  .have hlt:=(List.getElem?_eq_some_iff.1 h1).1;exact absurd (hall i (by simpa using hlt)) h4
theorem zol{rec:Rec}(hO:UG E rec){N:Nat}{fr:Fr}{ops:Array Oper}(hone:Qk ops.toList=true){β0:Inj}{H0:Heap}{w0:World}(hN:H0.next=N)(b:Frame)(k:List Item)(cs:List Frame){r:jk}(hr:r≠.fail) :
  ∀(fc t:Nat) (listed:Array Bool) (Dc:Nat->Prop) (Da:Nat) (T:Tr zb) (H:Heap) (β:Inj) (w:World) (a:Act) (f HA:Nat),
   Lag E N fr ops.toList Dc Da T H β w a.tmps->Kh ops Dc listed->listed.toList.count false<=fc->(∀j,bit HA j=true->Dc j)->Ext β0 H0 w0 β H w ->
   Yo (zuP E rec fr.n ops.toList (qC E ops.toList) f) E rec fr.n ops.toList (qC E ops.toList) HA Da T H=r ->
   ∃β' w' a' T' H',r = .nrm T' H'/\Rel E.P β' H' w'/\Ext β0 H0 w0 β' H' w'/\yh β' fr.n T' a'.tmps/\a'.defers=a.defers /\
    Steps E.P (lone (b.atR a (.inRegion ops (Region.linearise.go .any ops fc t listed [])::k)) cs w) (lone (b.atR a' k) cs w'):=by
 intro fc
 induction fc with
 | zero=>
  intro t listed Dc Da T H β w a f HA hL hl hcnt hHA hX h
  have hall:∀i,i<ops.size->Dc i:=by
   intro i hi;obtain⟨bv,hs⟩:∃bv,listed[i]?=some bv:=⟨_,Array.getElem?_eq_getElem (by rw[hl.size];exact hi)⟩
   rw[<- hl.iff,hs];have hz:listed.toList.count false=0:=by omega
   rw[List.count_eq_zero]at hz
   cases bv with
   | true=>rfl
   | false=>
    exfalso;apply hz;rw[<- getElem?_toList]at hs;exact List.mem_of_getElem? hs
  obtain⟨e,hT⟩:=zeu hL hall h hr
  exact⟨β,w,a,T,H,e,hL.rel,hX,hT,rfl,.one stepR_region_end⟩
 | succ fc ih=>
  intro t listed Dc Da T H β w a f HA hL hl hcnt hHA hX h
  have hgo:Region.linearise.go .any ops (fc+1) t listed []=match(ready .any ops listed)[t % (ready .any ops listed).length]? with
   | some i=>Region.linearise.go .any ops fc (t / (ready .any ops listed).length) (listed.setIfInBounds i true) [i]
   | none=>[]:=rfl
  rw[hgo]
  cases hi:(ready .any ops listed)[t % (ready .any ops listed).length]? with
  | none=>
   have hnil:ready .any ops listed=[]:=by
    cases hrd:ready .any ops listed with
    | nil=>rfl
    | cons x xs=>
     rw[hrd]at hi;have hlt:t % (x::xs).length<(x::xs).length:=mod_lt _ (by simp);rw[List.getElem?_eq_none_iff]at hi;omega
   obtain⟨e,hT⟩:=zeu hL (zjN hL hl hnil h hr) h hr
   exact⟨β,w,a,T,H,e,hL.rel,hX,hT,rfl,.one stepR_region_end⟩
  | some i=>
   simp only[];rw[linearise_go_acc,reverse_singleton,singleton_append];obtain⟨hnd,o,ho,hpre⟩:=(VD hl).1 (List.mem_of_getElem? hi);have hlt:=(Array.getElem?_eq_some_iff.1 ho).1;have ho':ops.toList[i]?=some o:=by rw[getElem?_toList];exact ho
   obtain⟨m,hm,rfl,rfl⟩:=zh7 E ho';have hl':=hl.add hlt
   have hcnt':(listed.setIfInBounds m.i true).toList.count false<=fc:=by
    rw[toList_setIfInBounds];have hlen:m.i<listed.toList.length:=by simpa[hl.size] using hlt
    rw[List.count_set hlen]
    have hf:listed.toList[m.i]=false:=by
     have hs:listed.toList[m.i]?=some listed.toList[m.i]:=List.getElem?_eq_getElem hlen
     cases hv:listed.toList[m.i] with
     | true=>rw[hv,getElem?_toList]at hs;exact absurd ((hl.iff m.i).1 hs) hnd
     | false=>rfl
    have hpos:1<=listed.toList.count false:=by
     rw[one_le_iff_ne_zero,Ne,List.count_eq_zero];intro hz;apply hz;rw[<- hf];exact List.getElem_mem hlen
    rw[hf,if_pos (by rfl),if_neg (by decide)];omega
   cases hb:bit Da m.i with
   | true=>
    have hk:m.kind≠2:=fun hk=>hnd (hL.heavy m hm hk hb)
    have hag:again E ops.toList T H (isK 1 m) m.o=true:=by
     unfold Yo at h;rw[zl]at h;split at h
     case isFalse=>exact absurd h.symm hr
     rename_i hag;refine zjh hag m hm hk hb ?_
     cases hh:bit HA m.i with
     | false=>rfl
     | true=>exact absurd (hHA _ hh) hnd
    obtain⟨β',w',a',q1,q2,q3,q4⟩:=hL.step hE hone hm hk hb hnd hpre hag hX hN b (Region.linearise.go .any ops fc (t / (ready .any ops listed).length) (listed.setIfInBounds m.i true) []) k cs;obtain⟨β2,w2,a2,T2,H2,e1,e2,e3,e4,e5,e6⟩:=ih (t / (ready .any ops listed).length) (listed.setIfInBounds m.i true) _ Da T H β' w' a' f HA q1 hl' hcnt' (fun j hj=>.inl (hHA j hj)) q2 h
    exact⟨β2,w2,a2,T2,H2,e1,e2,e3,e4,e5.trans q3,q4.trans e6⟩
   | false=>
    obtain⟨g1,g2,g3,g4⟩:=ju hm
    have hpreA:Vz m.pre Da=true:=zvf fun j hj=>by
     rw[g3]at hj;obtain⟨e,he,hbd,rfl⟩:=(zbv _ _).1 hj;exact hL.sub _ (hpre e he hbd)
    have hme:m∈enabled Da (qC E ops.toList):=Xq.2 ⟨hm,hb,hpreA⟩;have h0:=h;unfold Yo at h0;rw[zl]at h0;split at h0
    case isFalse=>exact absurd h0.symm hr
    revert h0 hme
    cases hen:enabled Da (qC E ops.toList) with
    | nil=>intro hme;cases hme
    | cons x l=>
     intro hme h0
     cases l with
     | cons y l=>exact absurd h0.symm hr
     | nil=>
      rw[List.mem_singleton]at hme;subst hme;simp only[ZK,zgb,zl]at h0;split at h0
      case isFalse=>exact absurd h0.symm hr
      simp only[zY,zrP]at h0
      cases f with
      | zero=>
       obtain⟨v,H1,hK,_⟩:=Kc h0 hr
       exact absurd hK.symm hr
      | succ f=>
       obtain⟨T1,H1,β1,w1,a1,hK,q1,q2,q3,q4⟩:=hL.zn8 hO hone hm hb hpre hpreA h0 hr hX b (Region.linearise.go .any ops fc (t / (ready .any ops listed).length) (listed.setIfInBounds m.i true) []) k cs;have hK:zaI E rec fr.n ops.toList (Yo (zuP E rec fr.n ops.toList (qC E ops.toList) f) E rec fr.n ops.toList (qC E ops.toList) (lor HA m.anc)) (qC E ops.toList) (Ke Da m.i) T1 H1=r:=hK;obtain⟨Da2,T2,H2,hK2,hL2,hX2⟩:=zhE hone hr (qC E ops.toList) (fun _ h=>h) _ _ _ hK q1 q2
       have hHA':∀j,bit (lor HA m.anc) j=true->Dc j\/j=m.i:=by
        intro j hj;rw[zgy,Bool.or_eq_true]at hj;rcases hj with hj|hj
        .exact .inl (hHA j hj)
        .obtain⟨o',ho2,hall⟩:=(Vc ops.toList).1 m.i m.anc j g2 hj;rw[g1]at ho2;cases ho2;exact .inl (hall Dc hL.closed hpre)
       obtain⟨β2,w2,a2,T3,H3,e1,e2,e3,e4,e5,e6⟩:=ih (t / (ready .any ops listed).length) (listed.setIfInBounds m.i true) _ Da2 T2 H2 β1 w1 a1 f (lor HA m.anc) hL2 hl' hcnt' hHA' hX2 hK2;exact⟨β2,w2,a2,T3,H3,e1,e2,e3,e4,e5.trans q3,q4.trans e6⟩
theorem zmO(u:E.P.follows .mixedOrders=true){rec:Rec}(hO:UG E rec):zlG E rec:=by
 intro fr id ops T H β w b a k cs B it C p;obtain rfl:it = .code (.region id ops true):=by rcases C with h|⟨d,h,_⟩;exact h;cases h
 show Out E.P fr B β H w b k cs _ (zjk E rec fr.n ops.toList T H);generalize f:zjk E rec fr.n ops.toList T H=r;by_cases g:r = .fail
 .rw[g];trivial
 .unfold zjk at f;rw[zl]at f;split at f
  case isFalse=>exact absurd f.symm g
  rename_i hone;have f:zaI E rec fr.n ops.toList (Yo (zuP E rec fr.n ops.toList (qC E ops.toList) (qS ops.toList 0)) E rec fr.n ops.toList (qC E ops.toList) 0) (qC E ops.toList) 0 T H=r:=f;have z:=Zr w;have hX0:Ext β H w β H { w with drawn:=w.drawn+1 }:=Ext.alike p.rel.bnd z
  have I:Lag E H.next fr ops.toList (fun _=>False) 0 T H β { w with drawn:=w.drawn+1 } a.tmps:=
   ⟨p.rel.alike z,p.glob,p.tmp.size,fun t=>.inl (p.tmp.tmp t),fun i h=>h.elim,fun i o _ h=>h.elim,fun m _ _ h=>(by rw[ZV]at h;cases h),fun m _ _ h=>(by rw[ZV]at h;cases h),Nat.le_refl _,
    fun m _ m' _ _ _ h=>(by rw[ZV]at h;cases h),fun i o d _ h=>(by rw[ZV]at h;cases h),⟨[],fun i=>(by rw[ZV];simp),fun L1 i L2 e=>(by simp at e)⟩⟩
  obtain⟨Da,U,H1,hK,hL1,G⟩:=zhE hone g (qC E ops.toList) (fun _ h=>h) _ _ _ f I hX0
  have A:Kh ops (fun _=>False) (Array.replicate ops.size false):=⟨by simp,fun i=>by
   rw[Array.getElem?_replicate]
   split<;>simp⟩
  obtain⟨β',w',a',T',H',e1,e2,J,Q,O,M⟩:=zol hE hO hone rfl b k cs g ops.size (w.tape w.drawn (.order b.fn id)) (Array.replicate ops.size false) (fun _=>False) Da U H1 β { w with drawn:=w.drawn+1 } a
   (qS ops.toList 0) 0 hL1 A (by simp) (fun j h=>by rw[ZV]at h;cases h) G hK
  subst e1;refine⟨β',w',a',⟨e2,J,Q,by rw[O];exact p.marks.ext J⟩,.head stepR_region_draw ?_⟩;rw[u];exact M
end
end
section
variable[Unk]
theorem Res.mono{P:Program}{m:Sem Next}{w:World}{R d:Value->World->Prop}(h:Res P m w R)(a:∀x w',R x w'->d x w'):Res P m w d:=by
 obtain⟨nx,g,h1,h2⟩:=h;refine⟨nx,g,h1,?_⟩
 cases nx with
 | value v=>exact a _ _ h2
 | skip=>exact a _ _ h2
 | enter f args=>exact Calls.mono h2 fun e w2 ⟨v,j,i⟩=>⟨v,j,a _ _ i⟩
 | round l f tmps as k=>
  intro c cs;obtain⟨v,w2,r,s⟩:=h2 c cs
  exact⟨v,w2,a _ _ r,s⟩
 | _=>exact h2.elim
theorem zkm{d β1 β':Inj}{m:Nat}(h1:∀id,id<m->β1 id=d id)(h2:∀id,id<m->β' id=d id){v:zb}(a:zf3 m v=true)(hw:WF β1 v):WF β' v/\zc β' v=zc β1 v:=by
 cases v<;>try(cases a;done)
 case bool b=>exact⟨trivial,rfl⟩
 case int k n=>exact⟨trivial,rfl⟩
 case str s=>exact⟨hw,rfl⟩
 case nilp=>exact⟨trivial,rfl⟩
 case nilslice=>exact⟨trivial,rfl⟩
 case nilmap=>exact⟨trivial,rfl⟩
 case nilfn=>exact⟨trivial,rfl⟩
 case niliface=>exact⟨trivial,rfl⟩
 case ptr b o=>
  have hb:blt b m=true:=a;rw[zN,decide_eq_true_eq]at hb;have e:β' b=β1 b:=by rw[h1 b hb,h2 b hb]
  exact⟨by simp only[WF]at hw ⊢;rw[e];exact hw,by simp[zc,Inj.addr,Inj.blk,Inj.sh,e]⟩
 case slice b o l c ex=>
  have hb:zn ex (blt b m)=true:=a;rw[zk,Bool.and_eq_true,zN,decide_eq_true_eq]at hb;have e:β' b=β1 b:=by rw[h1 b hb.2,h2 b hb.2]
  exact⟨by simp only[WF]at hw ⊢;rw[e];exact hw,by simp[zc,Inj.addr,Inj.blk,Inj.sh,Inj.ext,e]⟩
 case sym b=>
  have hb:blt b m=true:=a;rw[zN,decide_eq_true_eq]at hb;have e:β' b=β1 b:=by rw[h1 b hb,h2 b hb]
  exact⟨by simp only[WF]at hw ⊢;rw[e];exact hw,by simp[zc,e]⟩
 case map b=>
  have hb:blt b m=true:=a;rw[zN,decide_eq_true_eq]at hb;have e:β' b=β1 b:=by rw[h1 b hb,h2 b hb]
  exact⟨by simp only[WF]at hw ⊢;rw[e];exact hw,by simp[zc,Inj.blk,e]⟩
section
variable{E:Env}(hE:yg E)
include hE
omit hE in
theorem zaL{sz:Nat}{t:TypeId}{r:R}{p:Nat×List zb}(h:zcy sz t r=some p) :
  ∃(b cap:Nat) (ex:Bool) (H1:Heap) (q:Row),100<=b/\r=some (.slice b 0 p.1 cap ex,H1)/\H1.row b=some q/\q.t=t/\(if ex then cap*sz<=q.n else cap*sz=q.n)/\p.1<=cap/\Tr.JX (p.1*sz) q.c 0=some p.2:=by
 replace h:=ze h;obtain⟨r1,rfl,h⟩:=h;replace h:=ze h;obtain⟨s,hs,h⟩:=h;replace h:=ze h;obtain⟨q,hq,h⟩:=h;replace h:=zg h;obtain⟨hc,h⟩:=h;replace h:=ze h;obtain⟨l,hl,h⟩:=h;cases h;simp only[zk,Bool.and_eq_true,zu,beq_iff_eq,zG,decide_eq_true_eq]at hc;obtain⟨c0,c1,c2,c3,c4⟩:=hc;have hv:=jP hs;obtain⟨v,H1⟩:=r1;simp only at hv hq;subst hv;refine⟨s.b,s.cap,s.ex,H1,q,c0,by rw[c1],hq,c2,?_,c4,hl⟩;rw[zl]at c3
 cases hx:s.ex with
 | true=>rw[hx]at c3;simpa[zG] using c3
 | false=>rw[hx]at c3;simpa[zu] using c3
theorem zmB{d βr β1:Inj}{H Hr H1:Heap}{w X:World}{k g:Nat}{t sz:Nat}{b cap n:Nat}{ex:Bool}{q:Row}{l:List zb}(hR:Rel E.P d H w)(hsb:(d k).isSome)(hvb:(d g).isSome)
  {bs bv:zo} (hHs:H.blk.get k=some bs) (hHv:H.blk.get g=some bv)
  (hs60:100<=k) (hv60:100<=g) (hold:∀id,id<H.next->βr id=d id) (hb60:100<=b) (hrange:∀c,Range βr Hr c->c=d.blk k\/c=d.blk g) (hnx:H.next<=Hr.next) (hR1:Rel E.P β1 H1 X) (hX:Ext βr Hr w β1 H1 X) (hts:qX E.P t=sz)
  (hv:WF β1 (.slice b 0 n cap ex)) (hq:H1.row b=some q) (hqt:q.t=t) (hcap:if ex then cap*sz<=q.n else cap*sz=q.n) (hn:n<=cap) (hl:Tr.JX (n*sz) q.c 0=some l) (hoc:Q0 (zf3 H.next) l=true) :
  RR E.P d H w (.slice H.next 0 n n false) ⟨((H.blk.del k).del g).set H.next (.cells t (n*sz) (Tr.ofList l)),H.next+1⟩ (zc β1 (.slice b 0 n cap ex)) X:=by
 have _:=hE;obtain⟨ys,u⟩:=Option.isSome_iff_exists.1 hsb;obtain⟨yv,o⟩:=Option.isSome_iff_exists.1 hvb;have L:d.blk k=ys.1:=by simp[Inj.blk,u]
 have K:d.blk g=yv.1:=by simp[Inj.blk,o]
 obtain⟨y,Y⟩:=Option.isSome_iff_exists.1 hv.1;obtain⟨arr,fz,a1,U⟩:=hR1.rowAt hq hv.1;have hb1:β1.blk b=y.1:=by simp[Inj.blk,Y]
 have hs1:β1.sh b=y.2.1:=by simp[Inj.sh,Y]
 have he1:β1.ext b=y.2.2:=by simp[Inj.ext,Y]
 rw[hb1]at a1;rw[hs1,he1]at U;rw[hqt]at a1 U;let C:=if ex then cap else cap+y.2.2
 have hC:n<=C:=by
  show n<=if ex then cap else cap+y.2.2
  split<;>omega
 let x:Nat×Nat×Nat:=(y.1,y.2.1,C-n)
 have hf:=hR.fresh (Nat.le_refl H.next);have O:∀id,id<H.next->β1 id=d id:=fun id hid=>by rw[hX.old id (Nat.lt_of_lt_of_le hid hnx)];exact hold id hid
 have D:∀id,id<H.next->(d.put H.next x) id=d id:=fun id hid=>Inj.qg _ _ (by omega);have hle:d.le (d.put H.next x):=Inj.kX hf
 have N:w.heap.size<=y.1\/y.1=d.blk k\/y.1=d.blk g:=by
  obtain⟨b0,hb0,_⟩:=QR hq;rcases hX.zpT ⟨b,_,y,hb60,hb0,Y,rfl⟩ with h|h
  .exact .inl h
  .exact .inr (hrange _ h)
 have m:∀ {id f z},H.blk.get id=some f->d id=some z->id≠k->id≠g->z.1≠y.1:=by
  intro id f z h1 h2 B A e;rcases N with h|h|h
  .have:=(hR.blk id f z h1 h2).lt;omega
  .exact B (hR.Ze (.inr hs60) h1 h2 hHs u (by rw[e,h,L]))
  .exact A (hR.Ze (.inr hv60) h1 h2 hHv o (by rw[e,h,K]))
 have J:∀ {id f z},H.blk.get id=some f->d id=some z->id≠k->id≠g->X.heap[z.1]?=w.heap[z.1]?:=by
  intro id f z h1 h2 B A;refine hX.frame _ (hR.blk id f z h1 h2).lt fun hr=>?_;rcases hrange _ hr with h|h
  .exact B (hR.Ze (.inr hs60) h1 h2 hHs u (by rw[h,L]))
  .exact A (hR.Ze (.inr hv60) h1 h2 hHv o (by rw[h,K]))
 have aux:∀ {id f},(((H.blk.del k).del g).set H.next (.cells t (n*sz) (Tr.ofList l))).get id=some f->id≠H.next->id≠k/\id≠g/\H.blk.get id=some f:=by
  intro id f h hid;rw[Tr.zK,if_neg (fun e=>hid e.symm),Tr.jc]at h;split at h
  .cases h
  .rename_i A;rw[Tr.jc]at h;split at h
   .cases h
   .rename_i B;exact⟨fun e=>B e.symm,fun e=>A e.symm,h⟩
 have self:∀ {f},(((H.blk.del k).del g).set H.next (.cells t (n*sz) (Tr.ofList l))).get H.next=some f->f = .cells t (n*sz) (Tr.ofList l):=by
  intro f h;rw[Tr.zK,if_pos rfl]at h;cases h;rfl
 have a:∀ {id z},id≠H.next->d.put H.next x id=some z->d id=some z:=by
  intro id z hid h;rw[Inj.qg _ _ hid]at h;exact h
 obtain⟨l1,l2⟩:=Tr.jx _ _ _ _ hl
 have Z:zH E.P (d.put H.next x) (.cells t (n*sz) (Tr.ofList l)) x X:=by
  refine⟨arr,fz,a1,?_,?_,U.thaw,U.al⟩
  .have h1:=U.size;rw[hts]at h1 ⊢;show y.2.1+n*sz+(C-n)*sz<=arr.size;have h2:(C-n)*sz=C*sz-n*sz:=Nat.sub_mul _ _ _;have h3:n*sz<=C*sz:=mul_le_mul_right _ hC
   have h4:C*sz<=q.n+y.2.2*sz:=by
    show(if ex then cap else cap+y.2.2)*sz<=_
    cases ex with
    | true=>simp only[if_true]at hcap ⊢;omega
    | false=>
     simp only[Bool.false_eq_true,if_false]at hcap ⊢;rw[Nat.add_mul];omega
   omega
  .intro i v I;rw[Tr.qc]at I;have hlt:=(List.getElem?_eq_some_iff.1 I).1;have hg:=l2 i (by rw[<- l1];exact hlt);rw[Nat.zero_add,I]at hg;obtain⟨f1,f2⟩:=U.cell i v hg;rw[ZX,List.all_eq_true]at hoc;obtain⟨e1,e2⟩:=zkm O D (hoc v (List.mem_of_getElem? I)) f1;exact⟨e1,by rw[e2];exact f2⟩
 refine⟨d.put H.next x,?_,⟨by simp[Inj.zL],Nat.le_refl _⟩,⟨le_succ_of_le hR.base,?_,?_,?_,?_⟩,⟨fun id hid=>D id hid,le_succ _,?_,?_,?_,?_,?_,hX.size,hX.tape,hX.os,hX.output⟩⟩
 .simp only[zc,Inj.addr,Inj.blk,Inj.sh,Inj.ext,Inj.zL,Y,getD_some,Bool.false_eq_true,if_false];congr 1
  show(if ex=true then cap else cap+y.2.2)=n+(C-n);show C=_;omega
 .intro id f z h1 h2;by_cases hid:id=H.next
  .subst hid;rw[self h1];rw[Inj.zL]at h2;cases h2;exact Z
  .obtain⟨B,A,G⟩:=aux h1 hid;have h2':=a hid h2;exact((hR.blk id f z G h2').heap (J G h2' B A)).mono hle
 .intro i j bi bj zi zj h1 h2 h3 h4 e;by_cases hi:i=H.next
  .by_cases Q:j=H.next
   .exact .inl (by rw[hi,Q])
   .subst hi;rw[Inj.zL]at h2;cases h2;obtain⟨B,A,T⟩:=aux h3 Q;exact absurd e.symm (m T (a Q h4) B A)
  .obtain⟨B,A,G⟩:=aux h1 hi;by_cases Q:j=H.next
   .subst Q;rw[Inj.zL]at h4;cases h4;exact absurd e (m G (a hi h2) B A)
   .obtain⟨_,_,T⟩:=aux h3 Q;exact hR.inj i j bi bj zi zj G (a hi h2) T (a Q h4) e
 .intro id z h;show id<H.next+1;by_cases hid:id=H.next
  .omega
  .have:=hR.bnd _ _ (a hid h);omega
 .intro id f h;show id<H.next+1;by_cases hid:id=H.next
  .omega
  .have:=hR.live _ _ (aux h hid).2.2;omega
 .intro id hid e;show(((H.blk.del k).del g).set H.next (.cells t (n*sz) (Tr.ofList l))).get id=_;rw[Tr.zK,if_neg (by omega),Tr.jc,if_neg,Tr.jc,if_neg]
  .rintro rfl;rw[u]at e;cases e
  .rintro rfl;rw[o]at e;cases e
 .intro id f hid h;exact⟨f,(aux h (by omega)).2.2⟩
 .intro id hid;have:=hR.base;show(((H.blk.del k).del g).set H.next (.cells t (n*sz) (Tr.ofList l))).get id=_;rw[Tr.zK,if_neg (by omega),Tr.jc,if_neg (by omega),Tr.jc,if_neg (by omega)]
 .intro id z hid h;by_cases M:id=H.next
  .subst M;rw[Inj.zL]at h;cases h;rcases N with h|h|h
   .exact .inl h
   .exact .inr ⟨k,bs,ys,hs60,hHs,u,by rw[<- L];exact h.symm⟩
   .exact .inr ⟨g,bv,yv,hv60,hHv,o,by rw[<- K];exact h.symm⟩
  .exact absurd (hR.bnd _ _ (a M h)) (by omega)
 .intro c hc hr;refine hX.frame c hc fun h=>hr ?_;rcases hrange _ h with h|h
  .exact⟨k,bs,ys,hs60,hHs,u,by rw[h,L]⟩
  .exact⟨g,bv,yv,hv60,hHv,o,by rw[h,K]⟩
end
end
section
variable[Unk]
section
variable{E:Env}(hE:yg E)
include hE
omit hE in
theorem zbK{U:Tr zo}{a b:Nat}{x y:zo}(h:a≠b)(i:Nat):(Tr.set (Tr.set U a x) b y).get i=if b=i then some y else if a=i then some x else U.get i:=by
 have _:=h;rw[Tr.zK,Tr.zK]
theorem zrf(hN:XH E.P){rec:Rec}(L:Wy E rec):zm7 E rec:=by
 intro f args H H' v β w h hR hG hargs;unfold zgJ at h
 cases args with
 | nil=>cases h
 | cons a args=>
 cases args with
 | nil=>cases h
 | cons i args=>
 cases args with
 | nil=>cases h
 | cons vv args=>
 simp only[ZK]at h;replace h:=Q2 h;obtain⟨hnil,h⟩:=h;subst hnil
 cases hs:kN a with
 | none=>
  rw[hs,zm]at h
  exact Zx hE hN L h hR hG hargs
 | some s=>
  rw[hs,zd,zl]at h;split at h
  .exact Zx hE hN L h hR hG hargs
  .rename_i hex;replace h:=ze h;obtain⟨vs,hvs,h⟩:=h;simp only[zY]at h;have hva:=jP hs;have hvv:=jP hvs;subst hva;subst hvv;have hex:s.ex=false:=by simpa using hex
   replace h:=ze h;obtain⟨r,hr,h⟩:=h;replace h:=ze h;obtain⟨q,hq,h⟩:=h;replace h:=ze h;obtain⟨sz,hsz,h⟩:=h;replace h:=zg h;obtain⟨hc,h⟩:=h;simp only[zk,Bool.and_eq_true,qI,zu]at hc;obtain⟨⟨A,X⟩,c1,c2,c3⟩:=hc;rw[zG,decide_eq_true_eq]at A X;have c1:s.b≠vs.b:=by simpa using c1
   have c3:s.off+s.cap*sz=r.n:=by simpa using c3
   unfold zrg at h;replace h:=ze h;obtain⟨p,hp,h⟩:=h;replace h:=ze h;obtain⟨p2,hp2,h⟩:=h;replace h:=zg h;obtain⟨hc2,h⟩:=h;simp only[zk,Bool.and_eq_true,zu,beq_iff_eq]at hc2;obtain⟨d1,d2,d3⟩:=hc2;have d2:=jC _ _ d2
   have hpe:p2=p:=by
    obtain⟨x1,x2⟩:=p;obtain⟨y1,y2⟩:=p2;simp only at d1 d2;rw[d1,d2]
   subst hpe;have hts:qX E.P r.t=sz:=(Qy hE hsz).choose_spec.2.2.2;have M:WF β (.slice s.b s.off s.len s.cap s.ex):=hargs.1;have hwi:WF β i:=hargs.2.1;have Q:WF β (.slice vs.b vs.off vs.len vs.cap vs.ex):=hargs.2.2.1;have u:=zmQ hr;have o:=zmQ hq;have u:H.blk.get s.b=some (.cells r.t r.n r.c):=u;have o:H.blk.get vs.b=some (.cells q.t q.n q.c):=o;have hls:=hR.live _ _ u;have hlv:=hR.live _ _ o;obtain⟨Z,C⟩:=Option.isSome_iff_exists.1 M.1;obtain⟨yv,J⟩:=Option.isSome_iff_exists.1 Q.1;have hbs:β.blk s.b=Z.1:=by simp[Inj.blk,C]
   have hbv:β.blk vs.b=yv.1:=by simp[Inj.blk,J]
   have hbex:β.ext s.b=Z.2.2:=by simp[Inj.ext,C]
   have hU:∀id j,(jq E.tabs).get id=some j->id<100/\H.blk.get id=some j:=fun id j hh=>hG.tabs (id,j) (kP _ _ _ hh)
   have hTab:∀(V:Tr zo),(∀id,id<100->V.get id=(jq E.tabs).get id)->∀p∈E.tabs,p.1<100/\V.get p.1=some p.2:=by
    intro V hV p hp;obtain⟨t1,t2⟩:=hG.tabs p hp;obtain⟨j,hbl⟩:=zjF _ p hp;refine⟨t1,?_⟩;rw[hV p.1 t1,hbl,<- t2,(hU _ _ hbl).2]
   cases h
   cases Y:Z.2.2 with
   | zero=>
    let Hr:Heap:=⟨Tr.set (Tr.set (jq E.tabs) s.b (.cells r.t r.n r.c)) vs.b (.cells q.t q.n q.c),H.next⟩
    have d:∀id j,Hr.blk.get id=some j->H.blk.get id=some j/\(id<100\/id=s.b\/id=vs.b):=by
     intro id j hh;replace hh:(Tr.set (Tr.set (jq E.tabs) s.b (.cells r.t r.n r.c)) vs.b (.cells q.t q.n q.c)).get id=some j:=hh;rw[zbK c1]at hh;split at hh
     .rename_i e;subst e;cases hh;exact⟨o,.inr (.inr rfl)⟩
     .split at hh
      .rename_i e;subst e;cases hh;exact⟨u,.inr (.inl rfl)⟩
      .exact⟨(hU _ _ hh).2,.inl (hU _ _ hh).1⟩
    have hRr:Rel E.P β Hr w:=⟨hR.base,fun id j x h1 h2=>hR.blk id j x (d _ _ h1).1 h2,fun id I j bl' x x' h1 h2 h3 G e=>hR.inj _ _ _ _ _ _ (d _ _ h1).1 h2 (d _ _ h3).1 G e,hR.bnd,
     fun id j h1=>hR.live _ _ (d _ _ h1).1⟩
    obtain⟨b,cap,ex,H1,q1,o0,o1,o2,o3,o4,o5,o6⟩:=zaL hp;have hw:WFs β [.slice s.b s.off s.len s.cap true,i,.slice vs.b vs.off vs.len vs.cap vs.ex]:=⟨⟨M.1,M.2⟩,hwi,Q,trivial⟩
    have K:=Zx hE hN L o1 hRr (H:=Hr) ⟨hG.at_,hG.next,hG.facts,hTab _ fun id hid=>by show(Tr.set (Tr.set (jq E.tabs) s.b (.cells r.t r.n r.c)) vs.b (.cells q.t q.n q.c)).get id=_;rw[zbK c1,if_neg (by omega),if_neg (by omega)],hG.alts⟩ hw
    have hce:zf β [.slice s.b s.off s.len s.cap s.ex,i,.slice vs.b vs.off vs.len vs.cap vs.ex]=zf β [.slice s.b s.off s.len s.cap true,i,.slice vs.b vs.off vs.len vs.cap vs.ex]:=by
     simp[zf,zc,hex,hbex,Y]
    rw[hce];refine K.mono fun x w' hx=>?_;obtain⟨β1,rfl,k1,k2,k3⟩:=hx;refine zmB hE hR M.1 Q.1 u o (βr:=β) (Hr:=Hr) A X (fun _ _=>rfl) o0 ?_ (Nat.le_refl _) k2 k3 hts k1 o2 o3 o4 o5 o6 d3;rintro c ⟨id,j,z,h0,h1,h2,rfl⟩
    rcases(d _ _ h1).2 with hlt|rfl|rfl
    .omega
    .rw[C]at h2;cases h2;exact .inl hbs.symm
    .rw[J]at h2;cases h2;exact .inr hbv.symm
   | succ e=>
    have hfr:=hR.fresh (Nat.le_refl H.next);let β2:Inj:=β.put H.next (Z.1,Z.2.1,e)
    have m:β.le β2:=Inj.kX hfr;have hne:H.next≠vs.b:=by omega
    let Hr:Heap:=⟨Tr.set (Tr.set (jq E.tabs) H.next (.cells r.t (Nat.add r.n sz) r.c)) vs.b (.cells q.t q.n q.c),Nat.succ H.next⟩
    have d:∀id j,Hr.blk.get id=some j->(id=vs.b/\j = .cells q.t q.n q.c)\/(id=H.next/\j = .cells r.t (Nat.add r.n sz) r.c)\/(id<100/\H.blk.get id=some j):=by
     intro id j hh;replace hh:(Tr.set (Tr.set (jq E.tabs) H.next (.cells r.t (Nat.add r.n sz) r.c)) vs.b (.cells q.t q.n q.c)).get id=some j:=hh;rw[zbK hne]at hh;split at hh
     .rename_i O;subst O;cases hh;exact .inl ⟨rfl,rfl⟩
     .split at hh
      .rename_i O;subst O;cases hh;exact .inr (.inl ⟨rfl,rfl⟩)
      .exact .inr (.inr (hU _ _ hh))
    have N:β2 vs.b=some yv:=(Inj.qg β _ (show vs.b≠H.next by omega)).trans J;have D:β2 H.next=some (Z.1,Z.2.1,e):=Inj.zL _ _ _;have hyne:Z.1≠yv.1:=fun O=>c1 (hR.Ze (.inl A) u C o J O);obtain⟨arr,fz,a1,a2⟩:=hR.blk _ _ _ u C
    have hRr:Rel E.P β2 Hr w:=by
     refine⟨le_succ_of_le hR.base,?_,?_,?_,?_⟩
     .intro id j x h1 h2;rcases d _ _ h1 with⟨rfl,rfl⟩|⟨rfl,rfl⟩|⟨hlt,hold⟩
      .rw[N]at h2;cases h2;exact(hR.blk _ _ _ o J).mono m
      .rw[D]at h2;cases h2;have a3:=a2.mono m;refine⟨arr,fz,a1,?_,a3.cell,a3.thaw,a3.al⟩;have hz:=a2.size;rw[hts,Y]at hz;rw[hts];show Z.2.1+(r.n+sz)+e*sz<=arr.size;rw[succ_mul]at hz;omega
      .rw[show β2 id=β id from Inj.qg _ _ (by have:=hR.base;omega)]at h2;exact(hR.blk _ _ _ hold h2).mono m
     .intro id I j bl' x x' h1 h2 h3 G O;have hb60:=hR.base;rcases d _ _ h1 with⟨rfl,rfl⟩|⟨rfl,rfl⟩|⟨l1,o1⟩<;>rcases d _ _ h3 with⟨rfl,rfl⟩|⟨rfl,rfl⟩|⟨l2,o2⟩
      .exact .inl rfl
      .rw[N]at h2;rw[D]at G;cases h2;cases G;exact absurd O.symm hyne
      .rw[N]at h2;rw[show β2 I=β I from Inj.qg _ _ (by omega)]at G;cases h2;exact hR.inj _ _ _ _ _ _ o J o2 G O
      .rw[D]at h2;rw[N]at G;cases h2;cases G;exact absurd O hyne
      .exact .inl rfl
      .rw[D]at h2;rw[show β2 I=β I from Inj.qg _ _ (by omega)]at G;cases h2;have:=hR.Ze (.inl A) u C o2 G O;omega
      .rw[N]at G;rw[show β2 id=β id from Inj.qg _ _ (by omega)]at h2;cases G;exact hR.inj _ _ _ _ _ _ o1 h2 o J O
      .rw[D]at G;rw[show β2 id=β id from Inj.qg _ _ (by omega)]at h2;cases G;have:=hR.Ze (.inr A) o1 h2 u C O;omega
      .rw[show β2 id=β id from Inj.qg _ _ (by omega)]at h2;rw[show β2 I=β I from Inj.qg _ _ (by omega)]at G;exact hR.inj _ _ _ _ _ _ o1 h2 o2 G O
     .intro id x h1;show id<H.next+1;by_cases hid:id=H.next
      .omega
      .have:=hR.bnd id x (by rwa[show β2 id=β id from Inj.qg _ _ hid]at h1);omega
     .intro id j h1;show id<H.next+1;have:=hR.base;rcases d _ _ h1 with⟨rfl,_⟩|⟨rfl,_⟩|⟨_,_⟩<;>omega
    have hG2:Yv E β2 Hr:=⟨fun g hg=>(Inj.qg β _ (show g≠H.next by have:=hG.next;omega)).trans (hG.at_ g hg),le_succ_of_le hG.next,hG.facts.mono m,hTab _ fun id hid=>by have:=hG.next;show(Tr.set (Tr.set (jq E.tabs) H.next (.cells r.t (Nat.add r.n sz) r.c)) vs.b (.cells q.t q.n q.c)).get id=_;rw[zbK hne,if_neg (by omega),if_neg (by omega)],hG.alts.mono m⟩
    obtain⟨b,cap,ex,H1,q1,o0,o1,o2,o3,o4,o5,o6⟩:=zaL hp2;obtain⟨wi1,wi2⟩:=WF.mono m i hwi;obtain⟨wv1,wv2⟩:=WF.mono m _ Q;have hw:WFs β2 [.slice H.next s.off s.len (Nat.succ s.cap) false,i,.slice vs.b vs.off vs.len vs.cap vs.ex]:=⟨⟨by rw[D];rfl,le_succ_of_le M.2⟩,wi1,wv1,trivial⟩
    have K:=Zx hE hN L o1 hRr (H:=Hr) hG2 hw
    have hce:zf β [.slice s.b s.off s.len s.cap s.ex,i,.slice vs.b vs.off vs.len vs.cap vs.ex]=zf β2 [.slice H.next s.off s.len (Nat.succ s.cap) false,i,.slice vs.b vs.off vs.len vs.cap vs.ex]:=by
     simp only[zf];rw[wi2,wv2];congr 1
     simp only[zc,hex,Bool.false_eq_true,if_false,Inj.addr,Inj.blk,Inj.sh,Inj.ext,C,D,getD_some,Y];congr 1
     omega
    rw[hce];refine K.mono fun x w' hx=>?_;obtain⟨β1,rfl,k1,k2,k3⟩:=hx;refine zmB hE hR M.1 Q.1 u o (βr:=β2) (Hr:=Hr) A X (fun id hid=>Inj.qg _ _ (by omega)) o0 ?_ (le_succ _) k2 k3 hts k1 o2 o3 o4 o5 o6 d3;rintro c ⟨id,j,z,h0,h1,h2,rfl⟩
    rcases d _ _ h1 with⟨rfl,_⟩|⟨rfl,_⟩|⟨hlt,_⟩
    .rw[N]at h2;cases h2;exact .inr hbv.symm
    .rw[D]at h2;cases h2;exact .inl hbs.symm
    .omega
structure FitA(E:Env):Prop where
 env:yg E
 count:XH E.P
 spec:zgR E
 mixed:E.P.follows .mixedOrders=true
structure Fit(E:Env):Prop extends FitA E where
 noAlts:E.alts = .nil
omit hE in
theorem FitA.plus(hF:FitA E)(l:List Fact):FitA (E.plus l):=⟨⟨hF.env.types,hF.env.funcs⟩,hF.count,hF.spec,hF.mixed⟩
omit hE in
theorem zwv(hF:FitA E):∀n,Wy E (jg E n):=by
 intro n
 induction n with
 | zero=>intro fr c T H β w b a k cs B it hit hA;trivial
 | succ n ih=>
  intro fr c;have hI:=zrf hF.env hF.count ih;have hO:=zqa hF.env hF.count hF.spec ih hI;refine zjo hO (zmO hF.env hF.mixed hO) (zih hF.env hF.count ih) ih (zoL fun f=>?_) fr c;have hf:=hF.plus f;have h0:Wy (E.plus f) ZP:=fun _ _ _ _ _ _ _ _ _ _ _ _ _ _=>trivial;have hO':=zqa hf.env hf.count hf.spec h0 (zrf hf.env hf.count h0);exact⟨hO',zmO hf.env hf.mixed hO',zih hf.env hf.count h0⟩
omit hE in
theorem zgE(hF:FitA E){fuel:Nat}{f:FuncId}{args:List zb}{H H':Heap}{v:zb}(h:qj E (jg E fuel) f args H=some (v,H')){β:Inj}{w:World}(hR:Rel E.P β H w)(hG:Yv E β H)(hargs:WFs β args) :
  Calls E.P f (zf β args).toArray w fun e w2=>∃x,e = .returned x/\RR E.P β H w v H' x w2:=
 (zdU hF.env (zwv hF fuel) h hR hG hargs).2
end
end
section
variable[Unk]
noncomputable section
def Vt{α:Type}(p:α->Bool)(t:Tr α):Bool:=Tr.rec true (fun _ v _ l r=>zn (zh v true p) (zn l r)) t
def isLit(v:zb):Bool:=match v with|.int _ _=>true|.bool _=>true|.str _=>true|.nilp=>true|.nilslice=>true|.nilmap=>true|.nilfn=>true|.niliface=>true|_=>false
def zyX(v:zb):Bool:=match v with|.tuple l=>Q0 isLit l|v=>isLit v
def ziy(v:zb):Bool:=match v with|.sym i=>blt i 100|v=>isLit v
def Xy(b:zo):Bool:=match b with|.cells _ _ c=>Vt ziy c|.text _ v=>ziy v|.ints _ v=>ziy v|.view c=>Vt ziy c|_=>false
def zD(l:List (Nat×zo)):Bool:=List.rec true (fun p l ih=>zn (zn (blt p.1 100) (zn (Xy p.2) (zh ((jq l).get p.1) true fun _=>false))) ih) l
def zjX(t:Tr zo)(lo hi:Nat)(rows:List (Nat×zo)):Bool:=
 List.rec true (fun p _ ih=>zn (zn (Nat.ble lo p.1) (blt p.1 hi)) (zn (zh (t.get p.1) false fun b=>Zh b p.2) ih)) rows
def ja(E:Env)(N:Nat):Heap:=⟨jq E.tabs,N⟩
def JM(E:Env)(fuel:Nat)(f:FuncId)(args:List zb)(N:Nat)(v:zb):Bool:=
 zh (qj E (jg E fuel) f args (ja E N)) false fun p=>zn (qs p.1 v) (zyX v)
def zbQ(E:Env)(fuel:Nat)(f:FuncId)(args:List zb)(N n:Nat)(rows:List (Nat×zo))(v:zb):Bool:=
 zh (qj E (jg E fuel) f args (ja E N)) false fun p=>zn (qs p.1 v) (zn (Nat.beq p.2.next (Nat.add N n)) (zjX p.2.blk N (Nat.add N n) rows))
end
theorem zct{f:Type}(p:f->Bool):∀(q:Pa) (t:Tr f),Vt p t=true->∀v,Yk q t=some v->p v=true:=by
 intro q
 induction q with
 | e=>intro t h v hv;cases t with
  | nil=>cases hv
  | node l a r=>
   have h:zn (zh a true p) (zn (Vt p l) (Vt p r))=true:=h;rw[VI]at hv;subst hv;rw[zk,Bool.and_eq_true]at h
   exact h.1
 | o q d=>intro t h v hv;cases t with
  | nil=>cases hv
  | node l a r=>
   have h:zn (zh a true p) (zn (Vt p l) (Vt p r))=true:=h;rw[zk,zk,Bool.and_eq_true,Bool.and_eq_true]at h
   exact d l h.2.1 v hv
 | i q d=>intro t h v hv;cases t with
  | nil=>cases hv
  | node l a r=>
   have h:zn (zh a true p) (zn (Vt p l) (Vt p r))=true:=h;rw[zk,zk,Bool.and_eq_true,Bool.and_eq_true]at h;exact d r h.2.2 v hv
theorem zc7{β β':Inj}{v:zb}(h:isLit v=true)(hw:WF β v):WF β' v/\zc β' v=zc β v:=by
 cases v<;>first|(cases h;done)|exact⟨trivial,rfl⟩|exact⟨hw,rfl⟩
theorem ztz{β β':Inj}{v:zb}(h:zyX v=true)(hw:WF β v):WF β' v/\zc β' v=zc β v:=by
 have key:∀l:List zb,Q0 isLit l=true->WFs β l->WFs β' l/\zf β' l=zf β l:=by
  intro l
  induction l with
  | nil=>intro _ _;exact⟨trivial,rfl⟩
  | cons a l k=>
   intro h hw;have h:ifB (isLit a) (Q0 isLit l) false=true:=h;rw[zl]at h;split at h
   .rename_i m;obtain⟨f,d⟩:=zc7 (β':=β') m hw.1;obtain⟨o,n⟩:=k h hw.2;exact⟨⟨f,o⟩,by rw[zf,zf,d,n]⟩
   .cases h
 cases v
 case tuple l=>
  obtain⟨f,d⟩:=key l h hw;exact⟨f,by rw[zc,zc,d]⟩
 all_goals exact zc7 h hw
theorem Ua{d β':Inj}(f:∀g,g<100->d g=some (Unk.place g))(a:∀g,g<100->β' g=some (Unk.place g)){v:zb}(h:ziy v=true)(hw:WF d v):WF β' v/\zc β' v=zc d v:=by
 cases v
 case sym i=>
  have hi:i<100:=by
   have h:blt i 100=true:=h;rwa[zN,decide_eq_true_eq]at h
  exact⟨by simp[WF,a i hi],by simp only[zc,f i hi,a i hi]⟩
 all_goals exact zc7 h hw
theorem VZ{P:Program}{o β':Inj}(k:∀g,g<100->o g=some (Unk.place g))(a:∀g,g<100->β' g=some (Unk.place g)){b:zo}{x:Nat×Nat×Nat}{w:World}(h:Xy b=true)(hb:zH P o b x w):zH P β' b x w:=by
 cases b with
 | cells t n c=>
  obtain⟨arr,fz,h1,h2⟩:=hb;refine⟨arr,fz,h1,h2.size,fun i v hv=>?_,h2.thaw,h2.al⟩;obtain⟨m,l⟩:=h2.cell i v hv;obtain⟨f,d⟩:=Ua k a (zct _ _ _ h v hv) m
  exact⟨f,by rw[d];exact l⟩
 | map _ _=>cases h
 | loop _ _ _ _ _ _ _ _=>cases h
 | siter _ _=>cases h
 | text t v=>
  obtain⟨arr,fz,h1,h2⟩:=hb;obtain⟨f,d⟩:=Ua k a h h2.wf
  exact⟨arr,fz,h1,f,by rw[d];exact h2.is,h2.size,by rw[d];exact h2.cell,h2.thaw,h2.one⟩
 | pack _ _ _=>cases h
 | view c=>
  obtain⟨arr,t,fz,h1,h2⟩:=hb;refine⟨arr,t,fz,h1,fun i v hv=>?_⟩;obtain⟨m,l⟩:=h2 i v hv;obtain⟨f,d⟩:=Ua k a (zct _ _ _ h v hv) m
  exact⟨f,by rw[d];exact l⟩
 | ints t v=>
  obtain⟨arr,fz,h1,h2⟩:=hb;obtain⟨f,d⟩:=Ua k a h h2.wf;exact⟨arr,fz,h1,f,by rw[d];exact h2.is,h2.size,by rw[d];exact h2.cell,h2.thaw,h2.one⟩
theorem qH:∀ {l:List (Nat×zo)},zD l=true->∀p∈l,p.1<100/\Xy p.2=true/\(jq l).get p.1=some p.2:=by
 intro l
 induction l with
 | nil=>intro _ p hp;cases hp
 | cons q l d=>
  intro h p hp;have h:zn (zn (blt q.1 100) (zn (Xy q.2) (zh ((jq l).get q.1) true fun _=>false))) (zD l)=true:=h;simp only[zk,Bool.and_eq_true,zN,decide_eq_true_eq]at h;obtain⟨⟨h1,h2,h3⟩,f⟩:=h;rw[show jq (q::l)=(jq l).set q.1 q.2 from rfl,Tr.zK];rcases List.mem_cons.1 hp with rfl|hp
  .exact⟨h1,h2,by rw[if_pos rfl]⟩
  .obtain⟨m,k,a⟩:=d f p hp;refine⟨m,k,?_⟩;rw[if_neg]
   .exact a
   .intro e;rw[e,a]at h3;cases h3
theorem zlk{a b:zo}(h:Zh a b=true):(ya b).isNone=true:=by
 cases a<;>cases b<;>first|rfl|cases h
theorem znw{t:Tr zo}{lo hi:Nat}:∀ {rows:List (Nat×zo)},zjX t lo hi rows=true->∀p∈rows,lo<=p.1/\p.1<hi/\(ya p.2).isNone=true/\t.get p.1=some p.2:=by
 intro rows
 induction rows with
 | nil=>intro _ p hp;cases hp
 | cons q rows a=>
  intro h p hp;have h:zn (zn (Nat.ble lo q.1) (blt q.1 hi)) (zn (zh (t.get q.1) false fun b=>Zh b q.2) (zjX t lo hi rows))=true:=h;simp only[zk,Bool.and_eq_true,zG,zN,decide_eq_true_eq]at h;obtain⟨⟨h1,h2⟩,h3,d⟩:=h;rcases List.mem_cons.1 hp with rfl|hp
  .cases hg:t.get p.1 with
   | none=>rw[hg]at h3;cases h3
   | some b=>
    rw[hg,zd]at h3;exact⟨h1,h2,zlk h3,by rw[yy h3]⟩
  .exact a d p hp
def zJ(σ:Inj):Inj:=fun id=>if id<100 then some (Unk.place id) else σ id
section
variable{E:Env}(hF:Fit E){σ:Inj}{N:Nat}(h60:100<=N)(hσ:∀id x,σ id=some x->id<N)(hfacts:zC E (zJ σ))(hcl:zD E.tabs=true)
include h60 hσ hfacts hcl hF
omit hfacts hF in
theorem zet{w:World}(hw:zZ E.P E.tabs w):Rel E.P (zJ σ) (ja E N) w:=by
 obtain⟨β1,hβ1,h1⟩:=hw
 have mem:∀id b,(ja E N).blk.get id=some b->id<100/\Xy b=true/\zH E.P β1 b (Unk.place id) w:=fun id b hb=>by
  have:=kP _ _ _ hb;obtain⟨c1,c2,_⟩:=qH hcl _ this;exact⟨c1,c2,h1 _ this⟩
 refine⟨h60,?_,?_,?_,?_⟩
 .intro id b x hb hx;obtain⟨c1,c2,c3⟩:=mem id b hb;unfold zJ at hx;rw[if_pos c1]at hx;cases hx;exact VZ hβ1 (fun g hg=>by unfold zJ;rw[if_pos hg]) c2 c3
 .intro i j b c x y hb hx hc hy e;have c1:=(mem i b hb).1;have d1:=(mem j c hc).1;unfold zJ at hx hy;rw[if_pos c1]at hx;exact .inr ⟨c1,d1⟩
 .intro id x hx;show id<N;unfold zJ at hx;split at hx
  .omega
  .exact hσ id x hx
 .intro id b hb;have:=(mem id b hb).1;show id<N;omega
omit hF hσ in
theorem zjM(hA:Yx E (zJ σ)):Yv E (zJ σ) (ja E N) where
 at_:=fun g hg=>by unfold zJ;rw[if_pos hg]
 next:=h60
 facts:=hfacts
 tabs:=fun p hp=>⟨(qH hcl p hp).1,(qH hcl p hp).2.2⟩
 alts:=hA
theorem je{fuel:Nat}{f:FuncId}{args:List zb}{r:zb}{H':Heap}(h:qj E (jg E fuel) f args (ja E N)=some (r,H'))(a:WFs (zJ σ) args){w:World}(hw:zZ E.P E.tabs w) :
  Calls E.P f (zf (zJ σ) args).toArray w fun e w2=>Grown w w2/\∃γ,e = .returned (zc γ r)/\WF γ r/\(∀id,id<N->γ id=zJ σ id)/\Rel E.P γ H' w2/\(∀id x,N<=id->γ id=some x->w.heap.size<=x.1):=by
 have hR:=zet h60 hσ hcl hw;have l:=zjM h60 hfacts hcl (QG hF.noAlts);refine(zgE hF.toFitA h hR l a).mono fun e w2 hx=>?_;obtain⟨x,rfl,γ,rfl,n,m,d⟩:=hx
 have k:∀c,¬Range (zJ σ) (ja E N) c:=by
  rintro c ⟨id,b,x,o,hb,_⟩
  have:=(qH hcl _ (kP _ _ _ hb)).1;omega
 refine⟨⟨fun c hc=>d.frame c hc (k c),d.size,d.tape,d.os,d.output⟩,γ,rfl,n,fun id hid=>d.old id hid,m,fun id x hid hx=>?_⟩;rcases d.new id x hid hx with h|h
 .exact h
 .exact absurd h (k _)
theorem j4{fuel:Nat}{f:FuncId}{args:List zb}{v:zb}(h:JM E fuel f args N v=true)(a:WFs (zJ σ) args){w:World}(hw:zZ E.P E.tabs w) :
  Calls E.P f (zf (zJ σ) args).toArray w fun e w2=>Grown w w2/\e = .returned (zc (zJ σ) v)/\WF (zJ σ) v:=by
 unfold JM at h
 cases d:qj E (jg E fuel) f args (ja E N) with
 | none=>rw[d]at h;cases h
 | some p=>
  rw[d,zd,zk,Bool.and_eq_true]at h;have hv:=zM _ _ h.1;refine(je hF h60 hσ hfacts hcl (r:=p.1) (H':=p.2) d a hw).mono fun e w2 hx=>?_;obtain⟨hg,n,rfl,k,_⟩:=hx;rw[hv]at k ⊢;obtain⟨m,l⟩:=ztz (β':=zJ σ) h.2 k;exact⟨hg,by rw[l],m⟩
theorem zoj{fuel:Nat}{f:FuncId}{args:List zb}{v:zb}(h:JM E fuel f args N v=true)(a:WFs (zJ σ) args)(hw:WF (zJ σ) v) :
  zq E.P E.tabs (zJ σ) (.call f args v):=
 ⟨a,hw,fun _ d=>(j4 hF h60 hσ hfacts hcl h a d).mono fun _ _ hx=>⟨hx.2.1,hx.1⟩⟩
theorem zfc{fuel:Nat}{f:FuncId}{args:List zb}{n:Nat}{rows:List (Nat×zo)}{v:zb}(h:zbQ E fuel f args N n rows v=true)(d:WFs (zJ σ) args) :
  zq E.P E.tabs (zJ σ) (.make f args N n rows v):=by
 unfold zbQ at h
 cases l:qj E (jg E fuel) f args (ja E N) with
 | none=>rw[l]at h;cases h
 | some p=>
  rw[l,zd]at h;simp only[zk,Bool.and_eq_true,zu,beq_iff_eq]at h;obtain⟨h1,h2,h3⟩:=h;have hv:=zM _ _ h1;have a:=znw h3;have h2:p.2.next=N+n:=h2;refine⟨d,fun q hq=>⟨(a q hq).1,(a q hq).2.1,(a q hq).2.2.1⟩,fun w k=>?_⟩;refine(je hF h60 hσ hfacts hcl (r:=p.1) (H':=p.2) l d k).mono fun e w2 hx=>?_;obtain⟨hg,t,rfl,u,B,o,A⟩:=hx;rw[hv]at u ⊢;refine⟨hg,t,rfl,u,⟨fun id hid x hx=>by rw[<- B id hid];exact hx,fun id hid=>?_,A,fun q hq x hx=>o.blk q.1 q.2 x (a q hq).2.2.2 hx,fun q hq z m x y hx hy e=>o.Ze (.inl (Nat.le_trans h60 (a q hq).1)) (a q hq).2.2.2 hx (a z m).2.2.2 hy e⟩⟩
  cases hγ:t id with
  | none=>rfl
  | some x=>have:=o.bnd id x hγ;omega
end
end
section
open Go.ChangeShapes Go.WideShapes
theorem Zq{a b:Bool}(h:a=true)(k:b=true):(a&&b)=true:=by rw[h,k];rfl
theorem znp:∀(l:List (FuncId×Spec)) (t:Tr Spec) (f:FuncId) (s:Spec),(l.foldl (fun t p=>t.set p.1 p.2) t).get f=some s->t.get f=some s\/(f,s)∈l:=by
 intro l
 induction l with
 | nil=>intro t f s h;exact .inl h
 | cons p l a=>
  intro t f s h;rcases a _ _ _ h with h|h
  .rw[Tr.zK]at h;by_cases hp:p.1=f
   .rw[if_pos hp]at h;cases h;subst hp;exact .inr mem_cons_self
   .rw[if_neg hp]at h;exact .inl h
  .exact .inr (mem_cons_of_mem _ h)
def zm6(P:Program)(f:FuncId)(s:Spec):Prop:=
 match s with
 | .mapsClone=>ZZ P f Extern.MapsClone.clone
 | .indexByte=>ZZ P f Extern.BytealgIndexByte.indexByte
 | .makeNoZero e=>∃ps t,ZZ P f (Extern.BytealgMakeNoZero.makeNoZero ps #[t])/\P.underlying t=some (.slice e)/\qX P e=1
 | .same=>ZZ P f Extern.AbiNoEscape.same
 | .insert=>True
 | .compare=>ZZ P f Extern.BytealgCompare.compare
 | .count=>ZZ P f Extern.BytealgCount.count
 | .fact=>True
def zcJ (P:Program):Bool:=P.funcs.toList.all fun fn=>!(fn.name == "runtime.NumGoroutine")
theorem yT[Unk]{P:Program}{specs:List (FuncId×Spec)}{facts:List Fact}{tabs:List (Nat×zo)}(hn:zcJ P=true)(hm:P.follows .mixedOrders=true)(hs:∀p∈specs,zm6 P p.1 p.2):Fit (Zb P specs facts tabs) where
 env:=zqD P specs facts tabs
 noAlts:=rfl
 count:=fun f fn h=>by
  have h:P.funcs[f]?=some fn:=h;rw[<- getElem?_toList]at h;simpa using List.all_eq_true.1 hn fn (List.mem_of_getElem? h)
 spec:=fun f s h=>by
  rcases znp specs _ f s h with h|h
  .rw[Tr.get_nil]at h;cases h
  .have:=hs _ h;cases s<;>exact this
 mixed:=hm
theorem QE{P:Program}{W:World}{t e:TypeId}{n fuel:Nat}{k:IntKind}{zs:List Int}{cs:List Value}{p:List MemPlace}(f:P.underlying t=some (.array n e))(he:P.underlying e=some (.int k))(hc:P.cellsOf e=1)
  (h:DataW.trod (fun _=>()) P W 0 (fun _=>true) false fuel t cs=some (.agg (zs.map fun z=>.lit (.int k z)),p)) (hz:zs.length=n):∀(r:Nat) (z:Int),zs[r]?=some z->cs[r]?=some (Value.int k z):=by
 intro r z d;have a:r<n:=by rw[<- hz];exact(List.getElem?_eq_some_iff.1 d).1
 obtain⟨xs,m,_,ex,_,hl,b⟩:=DataW.trod_array f h;have hE:=b r a;rw[hc,Nat.mul_one,List.getElem?_eq_getElem (by omega)]at hE;obtain⟨y,l,j,_⟩:=DataW.trod_int he hE;have i:(xs.map (·.1))=zs.map fun z=>.lit (.int k z):=(DataW.agg.inj (Prod.mk.inj ex).1).symm;have c:(xs.map (·.1))[r]?=(zs.map fun z=>(DataW.lit (.int k z):DataW Unit))[r]?:=by rw[i]
 rw[List.getElem?_map,List.getElem?_map,List.getElem?_eq_getElem (by omega:r<xs.length),d,j]at c;simp only[map_some,Option.some.injEq,DataW.lit.injEq,Lit.int.injEq,true_and]at c;subst c;have g:((cs.drop r).take 1)[0]?=some (.int k y):=by rw[l];rfl
 simpa using g
theorem zfC[Unk]{P:Program}{W:World}{g t n:Nat}{k:IntKind}{zs:List Int}{β:Inj}{cs:Array Value}{name:String}(b:W.ShapedOpen P)(j:g<P.globals.size)
  (h0:(((begin P (fun _ _=>0) default).world.heap[g]?).bind Obj.row?).map (fun p=>(p.1.size,p.2))=some (n,t)) (hn:P.globalNamed name=some g) (hv:W.var? P name=some cs)
  (hcs:∀(r:Nat) (z:Int),zs[r]?=some z->cs.toList[r]?=some (Value.int k z)) (hz:zs.length=n) :
  zH P β (.cells t n (Tr.ofList (zs.map fun z=>.int k z))) (g,0,0) W:=by
 obtain⟨⟨zero,d⟩,l,e⟩:=Option.map_eq_some_iff.1 h0;simp only[Prod.mk.injEq]at e;obtain⟨rfl,rfl⟩:=e;obtain⟨arr,f,m,_⟩:=b.1 g zero d j l
 have c:cs=arr:=by
  simp only[World.var?,hn,bind_some,f]at hv;exact(Option.some.inj hv).symm
 subst c;refine⟨cs,(0,0),f,⟨?_,fun i v hi=>?_,fun i _ h=>by omega,Nat.dvd_zero _⟩⟩
 .show 0+zero.size+0*qX P d<=cs.size;omega
 .rw[Tr.qc,List.getElem?_map]at hi;obtain⟨z,a,rfl⟩:=Option.map_eq_some_iff.1 hi;refine⟨trivial,?_⟩;show cs[0+i]?=_;rw[Nat.zero_add,<- getElem?_toList];exact hcs i z a
theorem Grown.kept{W a:World}(h:Grown W a)(may:MemPlace->Prop):W.keptBut a may:=by
 refine⟨h.os,h.output,fun i hi=>?_⟩;rw[h.old i hi]
 cases W.heap[i]? with
 | none=>simp
 | some o=>
  cases o<;>simp
variable{H:Type}{enc:TypeId×Value->H}{P:Program}
theorem zcl{a:Assume}{C:Checked}{os:Os}{f:FuncId}{fn:Func}{s:ChangeSpec}{conds:List PathCond}{apart fresh handsOn again:Bool}{X:World->Array Value->Prop}
  (hX:∀(w w':World) (args:Array Value),w.heap=w'.heap->X w args->X w' args)
  (own:ownKnob C.prog.godebug=none) (started:os.Started) (noInit:C.prog.inits.idxOf? f=none) (hfn:C.prog.funcs[f]?=some fn)
  (witness:∃(w:World) (tape:Tape) (i:Input),w.os=os/\(w.forCall tape i).Shaped C.prog/\i.vars=[]/\Input.okWide C.prog (w.forCall tape i) .any w.heap.size f i /\
   ((s.pre enc C.prog fn conds apart (w.forCall tape i).memory i.args/\X (w.forCall tape i).memory i.args)/\sizedMet enc C.prog fn (OpenSpec.ofChange s) apart (w.forCall tape i).memory i.args)/\a.holds C.prog (lone (Frame.enter C.prog f i.args .normal) [] (w.forCall tape i)))
  (contract:∀(W:World) (base:Nat) (args:Array Value) (g gs:List (DataW H)) (before:List MemPlace),
   (∀(j:Nat) t v,fn.params[j]?=some t->args[j]?=some v->Value.okWide C.prog W .any base t v) ->
   DataW.Whole enc C.prog fn.params.toList s.vars apart W args.toList g gs before ->
   conds.all (PathCond.test C.prog ⟨fn.params.toList,g,s.plain.varTypes C.prog,gs⟩)=true ->
   X W args->W.ShapedOpen C.prog ->
   Calls C.prog f args W fun e n=>∃v,e = .returned v/\s.post enc C.prog fn apart fresh handsOn again W args v n) :
  ReturnsInHanded a C os f .any (fun w args=>(s.pre enc C.prog fn conds apart w args/\X w args)/\sizedMet enc C.prog fn (OpenSpec.ofChange s) apart w args) (s.post enc C.prog fn apart fresh handsOn again):=by
 refine returnsInHanded_of_calls own started noInit witness ?_;intro w tape i _ k _ l c _;obtain⟨_,_,_,m,d,_,_,_,_,b⟩:=l;have e:m=fn:=Option.some.inj (d.symm.trans hfn);subst e;obtain⟨⟨⟨g,gs,before,hw,hc⟩,hx⟩,o⟩:=c;have h:=DataW.Whole.of_heap (w':=w.forCall tape i) (by rfl) hw;refine(contract (w.forCall tape i) w.heap.size i.args g gs before b h hc (hX _ _ _ (by rfl) hx) k).mono fun e n ⟨v,he,hp⟩=>?_;subst he;exact ChangeSpec.post_blind hp
end
section
open Go.ChangeShapes Go.WideShapes
theorem Grown.below{W a:World}(h:Grown W a):RowKit.Below W.heap.size W a:=⟨h.os,h.tape,h.output,h.size,fun k b=>h.old k b⟩
variable{H:Type}{enc:TypeId×Value->H}{P:Program}
theorem zdZ(hl:laidOutB P=true){W j:World}(n:Grown W j):∀ {c:List TypeId}{vs:List Value}{f:List (DataW H)}{e:List MemPlace},(∀t∈c,P.readableRec t=true/\t<P.types.size) ->
  DataW.TrodAll enc P W 0 (fun _=>true) true c vs f e->(∀y∈e,y.block<W.heap.size)->DataW.TrodAll enc P j 0 (fun b=>decide (b<W.heap.size)) true c vs f e:=by
 intro c
 induction c with
 | nil=>
  intro vs f e _ h _;obtain⟨rfl,rfl,rfl⟩:=trodAll_nil h
  exact trodAll_mk0
 | cons t c l=>
  intro vs f e i h hp;obtain⟨v,k,d,o,p,q,rfl,rfl,rfl,h1,h2⟩:=trodAll_cons h;have a:=i t mem_cons_self
  exact trodAll_cons_mk (RowKit.Below.trod hl a.1 a.2 h1 n.below fun y g=>hp y (List.mem_append_left _ g))
   (l (fun u m=>i u (mem_cons_of_mem _ m)) h2 fun y g=>hp y (List.mem_append_right _ g))
def zcv(P:Program)(ts:List TypeId):Bool:=ts.all fun t=>P.readableRec t&&decide (t<P.types.size)
theorem znE{f:Func}{s:ChangeSpec}{apart fresh handsOn:Bool}{W k:World}{args:Array Value}{a gs:List (DataW H)}{before:List MemPlace}{tb:TypeId}
  (hl:laidOutB P=true) (hr:zcv P f.params.toList=true) (hvars:s.vars=[]) (hres:f.resultTypes = #[tb]) (htb:P.underlying tb=some .bool)
  (hfn:∀a:List (DataW H),a.length=f.params.size->s.fn H a={ results:=[.lit (.bool true)],args:=a })
  (hW:DataW.Whole enc P f.params.toList s.vars apart W args.toList a gs before) (hg:Grown W k):s.post enc P f apart fresh handsOn false W args (.bool true) k:=by
 have d:=hW.lt;have g:=hW;obtain⟨p,q,j,i,rfl,_,_⟩:=hW;rw[hvars]at i;obtain⟨rfl,rfl⟩:=trodVars_none i
 have hlen:∀ {b:List TypeId}{vs:List Value}{a:List (DataW H)}{c:List MemPlace}{sp:Nat->Bool},DataW.TrodAll enc P W 0 sp true b vs a c->a.length=b.length:=by
  intro b
  induction b with
  | nil=>intro vs a c sp h;obtain⟨_,rfl,_⟩:=trodAll_nil h;rfl
  | cons t b l=>intro vs a c sp h;obtain⟨_,_,_,_,_,_,_,rfl,_,_,h2⟩:=trodAll_cons h;simp[l h2]
 have e:s.fn H (a++[])={ results:=[.lit (.bool true)],args:=a }:=by
  rw[append_nil];exact hfn a (by rw[hlen j];simp)
 refine⟨a,[],_,[],p,[],g,?_,?_,?_,hg.kept _,fun h=>by cases h⟩
 .rw[e,hres];exact trodAll_mk1 (RowKit.shut_bool htb true)
 .rw[e];refine zdZ hl hg (fun t n=>?_) j fun y m=>d y (List.mem_append_left _ m);have:=List.all_eq_true.1 hr t n;simpa using this
 .rw[e,hvars];rfl
theorem zbo{C:Checked}{os:Os}{f:FuncId}{fn:Func}{s:ChangeSpec}{laid:List (String×DataW Unit)}{tb:TypeId}
  (own:ownKnob C.prog.godebug=none) (started:os.Started) (noInit:C.prog.inits.idxOf? f=none) (hfn:C.prog.funcs[f]?=some fn)
  (hl:laidOutB C.prog=true) (hr:zcv C.prog fn.params.toList=true) (hvars:s.vars=[]) (hres:fn.resultTypes = #[tb]) (htb:C.prog.underlying tb=some .bool)
  (hsp:∀a:List (DataW H),a.length=fn.params.size->s.fn H a={ results:=[.lit (.bool true)],args:=a })
  (witness:∃(w:World) (tape:Tape) (i:Input),w.os=os/\(w.forCall tape i).Shaped C.prog/\i.vars=[]/\Input.okWide C.prog (w.forCall tape i) .any w.heap.size f i /\
   ((s.pre enc C.prog fn [] false (w.forCall tape i).memory i.args/\laidMetH C.prog laid (w.forCall tape i).memory)/\sizedMet enc C.prog fn (OpenSpec.ofChange s) false (w.forCall tape i).memory i.args)/\({}:Assume).holds C.prog (lone (Frame.enter C.prog f i.args .normal) [] (w.forCall tape i)))
  (calls:∀(W:World) (base:Nat) (args:Array Value) (a:List (DataW H)) (l:List MemPlace),
   (∀(j:Nat) t v,fn.params[j]?=some t->args[j]?=some v->Value.okWide C.prog W .any base t v) ->
   DataW.TrodAll enc C.prog W 0 (fun _=>true) true fn.params.toList args.toList a l->laidMetH C.prog laid W->W.ShapedOpen C.prog ->
   Calls C.prog f args W fun e k=>Grown W k/\e = .returned (.bool true)) :
  ReturnsInHanded {} C os f .any (fun w args=>(s.pre enc C.prog fn [] false w args/\laidMetH C.prog laid w)/\sizedMet enc C.prog fn (OpenSpec.ofChange s) false w args) (s.post enc C.prog fn false true false false):=by
 refine zcl (X:=fun w _=>laidMetH C.prog laid w) (fun _ _ _ hh h=>h.of_heap hh) own started noInit hfn witness ?_;intro W base args a gs before b g _ n c;have d:=g;obtain⟨p,q,o,_⟩:=g;refine(calls W base args a p b o n c).mono fun e k hx=>?_;obtain⟨m,rfl⟩:=hx;exact⟨_,rfl,znE hl hr hvars hres htb hsp d m⟩
end
section
variable[Unk]
noncomputable section
def zjW(nx:Nat)(rin:List (Nat×zo)):Bool:=List.rec true (fun p _ ih=>zn (zn (Nat.ble 100 p.1) (blt p.1 nx)) ih) rin
def keptIn(t u:Tr zo)(rin:List (Nat×zo)):Bool:=List.rec true (fun p _ ih=>zn (zh (t.get p.1) true fun _=>zh (u.get p.1) false fun _=>true) ih) rin
def qR(E:Env)(nx:Nat)(rin:List (Nat×zo)):Heap:=⟨qb rin (jq E.tabs),nx⟩
def zgw(E:Env)(fuel:Nat)(f:FuncId)(args:List zb)(nx:Nat)(rin rout:List (Nat×zo))(v:zb)(n:Nat):Bool:=
 zn (zjW nx rin) (zh (qj E (jg E fuel) f args (qR E nx rin)) false fun p=>
  zn (qs p.1 v) (zn (Nat.beq p.2.next n) (zn (zbJ p.2.blk rout) (keptIn p.2.blk (qb rout .nil) rin))))
end
theorem zcj{nx:Nat}:∀ {rin:List (Nat×zo)},zjW nx rin=true->∀p∈rin,100<=p.1/\p.1<nx
 | [],_,p,hp=>by cases hp
 | q::l,h,p,hp=>by
  have h:zn (zn (Nat.ble 100 q.1) (blt q.1 nx)) (zjW nx l)=true:=h;simp only[zk,Bool.and_eq_true,zG,zN,decide_eq_true_eq]at h;rcases List.mem_cons.1 hp with rfl|hp
  .exact h.1
  .exact zcj h.2 p hp
theorem zcY{t u:Tr zo}:∀ {rin:List (Nat×zo)},keptIn t u rin=true->∀p∈rin,t.get p.1=none\/∃b,u.get p.1=some b
 | [],_,p,hp=>by cases hp
 | q::l,h,p,hp=>by
  have h:zn (zh (t.get q.1) true fun _=>zh (u.get q.1) false fun _=>true) (keptIn t u l)=true:=h;rw[zk,Bool.and_eq_true]at h;rcases List.mem_cons.1 hp with rfl|hp
  .cases h1:t.get p.1 with
   | none=>exact .inl rfl
   | some b=>
    cases h2:u.get p.1 with
    | none=>rw[h1,h2]at h;exact absurd h.1 (by simp)
    | some b=>exact .inr ⟨b,rfl⟩
  .exact zcY h.2 p hp
theorem zfb{E:Env}(hF:Fit E){J:Inj}(hfacts:zC E J)(A:zD E.tabs=true){fuel:Nat}{f:FuncId}{args:List zb}{nx:Nat}{rin rout:List (Nat×zo)}{v:zb}{n:Nat}
  (h:zgw E fuel f args nx rin rout v n=true):zq E.P E.tabs J (.memo f args nx rin rout v n):=by
 unfold zgw at h;rw[zk,Bool.and_eq_true]at h;obtain⟨i,h⟩:=h;have i:=zcj i
 cases u:qj E (jg E fuel) f args (qR E nx rin) with
 | none=>rw[u]at h;cases h
 | some q=>
  rw[u,zd]at h;simp only[zk,Bool.and_eq_true,zu,beq_iff_eq]at h;obtain⟨h1,h2,h3,G⟩:=h;have hv:=zM _ _ h1;have h3:=VT h3;have G:=zcY G;intro β' H w hle hR B c z o m;subst z
  have d:∀id b,(qR E H.next rin).blk.get id=some b->H.blk.get id=some b:=by
   intro id b hb;rcases yn rin _ id b hb with hm|⟨_,hm⟩
   .exact o _ hm
   .exact(c _ (kP _ _ _ hm)).2
  have C:Rel E.P β' (qR E H.next rin) w:=hR.part rfl d
  have N:Yv E β' (qR E H.next rin):=by
   refine⟨B,hR.base,fun f M=>(hfacts f M).mono hle,fun p hp=>?_,QG hF.noAlts⟩;obtain⟨I,_,r⟩:=qH A p hp;refine⟨I,?_⟩;show(qb rin (jq E.tabs)).get p.1=_;rw[Qh rin _ _ fun L y e=>by have:=(i L y).1;omega];exact r
  refine(zgE hF.toFitA u C N m).mono fun e w2 hx=>?_;obtain⟨x,rfl,K,rfl,I,O,r⟩:=hx;refine⟨K,by rw[hv],by rw[<- hv];exact I,?_⟩
  have g:∀id,(∃b,(id,b)∈rout/\(yq H rin rout n).blk.get id=some b)\/((∀p∈rout,p.1≠id)/\(yq H rin rout n).blk.get id=(Xu rin H.blk).get id):=by
   intro id;by_cases hm:∃p∈rout,p.1=id
   .obtain⟨p,hp,rfl⟩:=hm;obtain⟨b,hb⟩:=UW rout (Xu rin H.blk) p hp;rcases yn rout _ _ _ hb with h|⟨h,_⟩
    .exact .inl ⟨b,h,hb⟩
    .exact absurd rfl (h p hp)
   .have hm:∀p∈rout,p.1≠id:=fun p hp e=>hm ⟨p,hp,e⟩;exact .inr ⟨hm,Qh rout _ id hm⟩
  refine Rel.rest (Hi:=qR E H.next rin) (H':=yq H rin rout n) hR rfl d O r h2.symm ?_ ?_ ?_
  .intro id hid k
   have j:∀p∈rin,p.1≠id:=by
    intro p hp e;obtain⟨b,hb⟩:=UW rin (jq E.tabs) p hp;rw[e]at hb;rw[show(qR E H.next rin).blk.get id=some b from hb]at k;cases k
   rcases g id with⟨b,hb,_⟩|⟨_,hb⟩
   .obtain⟨b',a⟩:=r.gone id b hid (h3 _ hb);rw[k]at a;cases a
   .rw[hb,Xt rin _ id j]
  .intro id b hid hb;rcases g id with⟨b',a,l⟩|⟨hn,l⟩
   .rw[l,h3 _ a]
   .rw[l];rcases yn rin _ id b hb with hm|⟨j,hm⟩
    .rw[WZ rin H.blk (id,b) hm];rcases G _ hm with D|⟨b',D⟩
     .exact D.symm
     .rcases yn rout _ _ _ D with t|⟨_,t⟩
      .exact absurd rfl (hn _ t)
      .rw[Tr.get_nil]at t;cases t
    .rw[Xt rin _ id j,d id b hb];have h60:=(c _ (kP _ _ _ hm)).1;rw[r.ro id h60];exact hb.symm
  .intro id b hid hb;rcases g id with⟨b',a,l⟩|⟨_,l⟩
   .rw[l]at hb;cases hb;exact h3 _ a
   .rw[l]at hb;by_cases hm:∃p∈rin,p.1=id
    .obtain⟨p,hp,rfl⟩:=hm;rw[WZ rin H.blk p hp]at hb;cases hb
    .rw[Xt rin _ id fun p hp e=>hm ⟨p,hp,e⟩]at hb;have:=hR.live id b hb;omega
noncomputable section
def Xj(l:List (Nat×zo)):List Nat:=List.rec [] (fun p _ ih=>p.1::ih) l
def zmf(N:Nat)(l:List (Nat×zo)):Bool:=List.rec true (fun p _ ih=>zn (zn (Nat.ble N p.1) (zh (ya p.2) true fun _=>false)) ih) l
def Wq(E:Env)(fuel:Nat)(f:FuncId)(N:Nat)(args:List zb)(nx:Nat)(rin rout:List (Nat×zo))(v:zb)(n:Nat):Bool:=
 zn (Je (Xj rin)) (zn (Je (Xj rout)) (zn (zmf N rout) (zgw E fuel f args nx rin rout v n)))
end
theorem zcX:∀ {l:List (Nat×zo)}{p:Nat×zo},p∈l->p.1∈Xj l
 | q::l,p,h=>by
  rcases List.mem_cons.1 h with rfl|h
  .exact mem_cons_self
  .exact mem_cons_of_mem _ (zcX h)
theorem QL:∀ {l:List (Nat×zo)},Je (Xj l)=true->∀t,∀p∈l,(qb l t).get p.1=some p.2
 | [],_,_,p,hp=>by cases hp
 | q::l,h,t,p,hp=>by
  have h:ifB (zcR q.1 (Xj l)) false (Je (Xj l))=true:=h;rw[zl]at h;split at h
  .cases h
  .rename_i hn;have hn:q.1 ∉ Xj l:=fun hm=>hn ((zbD _ _).2 hm);have e:qb (q::l) t=(qb l t).set q.1 q.2:=rfl;rw[e,Tr.zK];rcases List.mem_cons.1 hp with a|a
   .rw[a,if_pos rfl]
   .have b:¬q.1=p.1:=fun e=>hn (by rw[e];exact zcX a);rw[if_neg b];exact QL h t p a
theorem U3{N:Nat}:∀ {l:List (Nat×zo)},zmf N l=true->∀p∈l,N<=p.1/\(ya p.2).isNone=true
 | [],_,p,hp=>by cases hp
 | q::l,h,p,hp=>by
  have h:zn (zn (Nat.ble N q.1) (zh (ya q.2) true fun _=>false)) (zmf N l)=true:=h;simp only[zk,Bool.and_eq_true,zG,decide_eq_true_eq]at h;rcases List.mem_cons.1 hp with rfl|hp
  .refine⟨h.1.1,?_⟩;have h2:=h.1.2
   cases hl:ya p.2 with
   | none=>rfl
   | some x=>rw[hl]at h2;cases h2
  .exact U3 h.2 p hp
theorem zkS{E:Env}(hF:Fit E){β0 c:Inj}{N:Nat}(hfacts:zC E β0)(hle:β0.le c)(hN:∀id,N<=id->β0 id=none)(b:zD E.tabs=true){fuel:Nat}{f:FuncId}{a:List Seg}{args:List zb}{nx:Nat}
  {rin rout:List (Nat×zo)}{v:zb}{n:Nat} (h:Wq E fuel f N args nx rin rout v n=true):zq E.P E.tabs c (.memoG f N a args nx rin rout v n):=by
 unfold Wq at h;simp only[zk,Bool.and_eq_true]at h;obtain⟨h1,h2,h3,g⟩:=h;refine⟨β0,hle,hN,zfb hF hfacts b g,QL h1,U3 h3,QL h2,fun p hp=>?_⟩;obtain⟨c1,i,c3⟩:=qH b p hp;exact⟨fun c β' x w hb d e=>VZ hb d i e,c3⟩
end
section
structure zjs(P:Program)(k:IntKind)(t:TypeId)(w w2:World)(s:ByteArray)(v:Value)(x:Nat×Nat×Nat)(arr:Array Value)(fz:Nat×Nat):Prop where
 is:v = .slice (some ⟨x.1,x.2.1,none⟩) s.size x.2.2
 new:w.heap.size<=x.1
 row:w2.heap[x.1]?=some (.cells arr t fz)
 cap:s.size<=x.2.2
 size:x.2.1+x.2.2<=arr.size
 cell:∀i (b:UInt8),s.data[i]?=some b->arr[x.2.1+i]?=some (.int k b.toNat)
 thaw:∀i,i<arr.size->¬(fz.1<=i/\i<fz.2)
 one:qX P t=1
def XP(P:Program)(k:IntKind)(t:TypeId)(w w2:World)(s:ByteArray)(v:Value)(b:Nat):Prop:=∃x arr fz,x.1=b/\zjs P k t w w2 s v x arr fz
variable[Unk]
theorem zjs.text{P:Program}{k:IntKind}{t:TypeId}{w w2:World}{s:ByteArray}{v:Value}{x:Nat×Nat×Nat}{arr:Array Value}{fz:Nat×Nat}(h:zjs P k t w w2 s v x arr fz){γ:Inj}{q:zb}(hq:WF γ q)(hs:zc γ q = .string s) :
  ZY P γ k t q x.2.1 x.2.2 arr fz:=
 ⟨hq,⟨s,hs,h.cap⟩,h.size,fun i b hb=>h.cell i b (by rw[hs]at hb;exact hb),h.thaw,h.one⟩
theorem zaT{P:Program}{γ:Inj}{H':Heap}{w w2:World}{b l cp:Nat}{ex:Bool}{r:Row}{s:ByteArray}{k:IntKind}(hR:Rel P γ H' w2)(hb:H'.row b=some r)(h:(γ b).isSome)(a:∀x,γ b=some x->w.heap.size<=x.1)
  (h1:qX P r.t=1) (hc:cp<=r.n) (hl:l=s.size) (hlc:l<=cp) (hs:∀i (c:UInt8),s.data[i]?=some c->∃u,r.c.get i=some u/\zc γ u = .int k c.toNat) :
  XP P k r.t w w2 s (zc γ (.slice b 0 l cp ex)) (γ.blk b):=by
 obtain⟨x,hx⟩:=Option.isSome_iff_exists.1 h;obtain⟨p,d,j⟩:=QR hb;obtain⟨arr,fz,h2,h3⟩:=(zat j).1 (hR.blk b p x d hx);have e:γ.blk b=x.1:=by simp[Inj.blk,hx]
 have o:γ.sh b=x.2.1:=by simp[Inj.sh,hx]
 have m:γ.ext b=x.2.2:=by simp[Inj.ext,hx]
 have f:=h3.size;rw[h1,Nat.mul_one]at f;refine⟨(x.1,x.2.1,if ex then cp else cp+x.2.2),arr,fz,e.symm,?_,a x hx,h2,?_,?_,?_,h3.thaw,h1⟩
 .simp[zc,Inj.addr,e,o,m,hl]
 .show s.size<=if ex=true then cp else cp+x.2.2
  split<;>omega
 .show x.2.1+(if ex=true then cp else cp+x.2.2)<=arr.size;split<;>omega
 .intro i c hc;obtain⟨u,g,hv⟩:=hs i c hc;rw[<- hv];exact(h3.cell i u g).2
def Inj.upto(β:Inj)(N:Nat)(δ:Inj):Inj:=fun id=>if id<N then β id else δ id
theorem upto_low{a b:Inj}{N id:Nat}(h:id<N):a.upto N b id=a id:=if_pos h
theorem upto_high{b a:Inj}{N id:Nat}(h:N<=id):b.upto N a id=a id:=if_neg (by omega)
def JW(N:Nat)(v:zb):Bool:=match v with|.sym i=>decide (i<N)|.int _ _=>true|.bool _=>true|.str _=>true|.nilslice=>true|_=>false
theorem zbE{β γ:Inj}{N:Nat}(a:∀id,id<N->γ id=β id){v:zb}(h:JW N v=true)(hw:WF β v):WF γ v/\zc γ v=zc β v:=by
 cases v
 case sym i=>
  have hi:i<N:=by simpa[JW] using h
  simp only[WF,zc,a i hi]at hw ⊢;exact⟨hw,trivial⟩
 all_goals first|(cases h;done)|exact⟨trivial,rfl⟩|exact⟨hw,rfl⟩
theorem zad{P:Program}{tabs:List (Nat×zo)}{a:Inj}{f:FuncId}{args:List zb}{N q:Nat}{t:TypeId}{s:ByteArray}(j:WFs a args)(hq:q<N)(hw:WF a (.sym q))(hs:zc a (.sym q) = .string s)
  (hc:∀w,zZ P tabs w->Calls P f (zf a args).toArray w fun e w2=>Grown w w2/\∃v b,e = .returned v/\XP P .u8 t w w2 s v b) :
  Z0 P tabs a f args N 1 [(N,.text t (.sym q))] (.osl N (.sym q)):=by
 refine⟨j,fun p hp=>by rw[List.mem_singleton]at hp;subst hp;exact⟨Nat.le_refl _,lt_succ_self _,rfl⟩,fun w h=>(hc w h).mono fun e w2 hx=>?_⟩;obtain⟨i,v,b,rfl,x,arr,fz,rfl,hn⟩:=hx;refine⟨i,a.upto N fun id=>if id=N then some x else none,?_⟩;have g:(a.upto N fun id=>if id=N then some x else none) N=some x:=by rw[upto_high (Nat.le_refl _),if_pos rfl]
 obtain⟨q1,q2⟩:=zbE (β:=a) (γ:=a.upto N fun id=>if id=N then some x else none) (N:=N) (fun id hid=>upto_low hid) (v:=.sym q) (by simpa[JW] using hq) hw;rw[hs]at q2;refine⟨?_,?_,?_⟩
 .rw[hn.is,zc,q2];simp[sOf,Inj.addr,Inj.blk,Inj.sh,Inj.ext,g]
 .exact⟨by rw[g];rfl,q1,s,q2,by simp only[Inj.ext,g];exact hn.cap⟩
 .refine⟨fun id hid y c=>by rw[upto_low hid]at c;exact c,fun id hid=>by rw[upto_high (by omega),if_neg (by omega)],fun id y hid c=>?_,fun p hp y c=>?_,fun p hp k d y y' _ _ _=>?_⟩
  .rw[upto_high hid]at c;split at c
   .cases c;exact hn.new
   .cases c
  .rw[List.mem_singleton]at hp;subst hp;rw[g]at c;cases c;exact⟨arr,fz,hn.row,hn.text q1 q2⟩
  .rw[List.mem_singleton]at hp d;subst hp;subst d;rfl
def zta(b:Nat)(q:Nat):Option ByteArray->zb
 | none=>.nilslice
 | some _=>.osl b (.sym q)
def ztb(t:TypeId)(b:Nat)(q:Nat):Option ByteArray->List (Nat×zo)
 | none=>[]
 | some _=>[(b,.ints t (.sym q))]
def UF(P:Program)(k:IntKind)(t:TypeId)(w w2:World)(b:Nat)(v:Value):Option ByteArray->Prop
 | none=>v = .slice none 0 0
 | some s=>XP P k t w w2 s v b
def zsy(β:Inj)(q:Nat):Option ByteArray->Prop
 | none=>True
 | some s=>WF β (.sym q)/\zc β (.sym q) = .string s
theorem zqJ{P:Program}{tabs:List (Nat×zo)}{β:Inj}{f:FuncId}{args:List zb}{N q1 q2:Nat}{t:TypeId}{o1 o2:Option ByteArray}{l1 l2:List zb}(T:WFs β args)(h1:q1<N)(h2:q2<N)(M:zsy β q1 o1)(k2:zsy β q2 o2)
  (hl1:∀v∈l1,JW N v=true) (hl2:∀v∈l2,JW N v=true) (hw1:WFs β l1) (hw2:WFs β l2)
  (hc:∀w,zZ P tabs w->Calls P f (zf β args).toArray w fun e w2=>Grown w w2/\∃v1 v2 G D,G≠D/\e = .returned (.agg (zf β l1++v1::v2::zf β l2).toArray)/\UF P .i64 t w w2 G v1 o1/\UF P .i64 t w w2 D v2 o2) :
  Z0 P tabs β f args N 2 (ztb t N q1 o1++ztb t (N+1) q2 o2) (.agg (l1++zta N q1 o1::zta (N+1) q2 o2::l2)):=by
 have g:∀p∈ztb t N q1 o1++ztb t (N+1) q2 o2,(p=(N,.ints t (.sym q1))/\o1.isSome)\/(p=(N+1,.ints t (.sym q2))/\o2.isSome):=by
  intro p hp;rcases List.mem_append.1 hp with hp|hp
  .cases o1 with
   | none=>cases hp
   | some s=>exact .inl ⟨List.mem_singleton.1 hp,rfl⟩
  .cases o2 with
   | none=>cases hp
   | some s=>exact .inr ⟨List.mem_singleton.1 hp,rfl⟩
 refine⟨T,fun p hp=>?_,fun w J=>(hc w J).mono fun e w2 hx=>?_⟩
 .rcases g p hp with⟨rfl,_⟩|⟨rfl,_⟩
  .exact⟨Nat.le_refl _,by show N<N+2;omega,rfl⟩
  .exact⟨by show N<=N+1;omega,by show N+1<N+2;omega,rfl⟩
 obtain⟨L,v1,v2,G,D,C,rfl,B,A⟩:=hx
 have pick:∀ {o:Option ByteArray}{v:Value}{b:Nat},UF P .i64 t w w2 b v o->∃x:Nat×Nat×Nat,(o.isSome->x.1=b/\∃s arr fz,o=some s/\zjs P .i64 t w w2 s v x arr fz):=by
  intro o v b h
  cases o with
  | none=>exact⟨(0,0,0),fun h=>by cases h⟩
  | some s=>
   obtain⟨x,arr,fz,e,h⟩:=h;exact⟨x,fun _=>⟨e,s,arr,fz,rfl,h⟩⟩
 obtain⟨x1,j⟩:=pick B;obtain⟨x2,i⟩:=pick A;let γ:Inj:=β.upto N fun id=>if id=N/\o1.isSome then some x1 else if id=N+1/\o2.isSome then some x2 else none
 have lo:∀id,id<N->γ id=β id:=fun id hid=>upto_low hid
 have g1:o1.isSome->γ N=some x1:=fun h=>by
  show β.upto N _ N=_;rw[upto_high (Nat.le_refl _),if_pos ⟨rfl,h⟩]
 have I:o2.isSome->γ (N+1)=some x2:=fun h=>by
  show β.upto N _ (N+1)=_;rw[upto_high (le_succ _),if_neg (by omega),if_pos ⟨rfl,h⟩]
 have d:∀ {q:Nat}{o:Option ByteArray},q<N->zsy β q o->∀s,o=some s->WF γ (.sym q)/\zc γ (.sym q) = .string s:=by
  intro q o hq H s e;subst e;obtain⟨a,b⟩:=zbE (β:=β) (γ:=γ) (N:=N) lo (v:=.sym q) (by simpa[JW] using hq) H.1;exact⟨a,b.trans H.2⟩
 have val:∀ {o:Option ByteArray}{v:Value}{b q id:Nat}{x:Nat×Nat×Nat},q<N->zsy β q o->UF P .i64 t w w2 b v o->(o.isSome->γ id=some x)->(o.isSome->x.1=b/\∃s arr fz,o=some s/\zjs P .i64 t w w2 s v x arr fz)->WF γ (zta id q o)/\zc γ (zta id q o)=v:=by
  intro o v b q id x hq H hs L hx
  cases o with
  | none=>exact⟨trivial,hs.symm⟩
  | some s=>
   obtain⟨_,s',arr,fz,e,hn⟩:=hx rfl;cases e;obtain⟨z,u⟩:=d hq H s rfl;have e:=L rfl;refine⟨⟨by rw[e];rfl,z,s,u,by simp only[Inj.ext,e];exact hn.cap⟩,?_⟩;show zc γ (.osl id (.sym q))=v;rw[hn.is,zc,u];simp[sOf,Inj.addr,Inj.blk,Inj.sh,Inj.ext,e]
 obtain⟨c1,c2⟩:=val h1 M B g1 j;obtain⟨d1,d2⟩:=val h2 k2 A I i
 have r:∀l:List zb,(∀v∈l,JW N v=true)->WFs β l->WFs γ l/\zf γ l=zf β l:=by
  intro l
  induction l with
  | nil=>intro _ _;exact⟨trivial,rfl⟩
  | cons a l Q=>
   intro h hw;obtain⟨z,u⟩:=zbE (β:=β) (γ:=γ) lo (h a mem_cons_self) hw.1;obtain⟨G,D⟩:=Q (fun v hv=>h v (mem_cons_of_mem _ hv)) hw.2;exact⟨⟨z,G⟩,by rw[zf,zf,u,D]⟩
 obtain⟨Z,Y⟩:=r l1 hl1 hw1;obtain⟨X,U⟩:=r l2 hl2 hw2;refine⟨L,γ,?_,?_,?_⟩
 .simp only[zc];rw[yL,Y,zf,zf,c2,d2,U]
 .exact JR Z ⟨c1,d1,X⟩
 .refine⟨fun id hid y c=>by rw[lo id hid]at c;exact c,fun id hid=>?_,fun id y hid c=>?_,fun p hp y c=>?_,fun p hp O K y y' c n e=>?_⟩
  .show β.upto N _ id=_;rw[upto_high (by omega),if_neg (by omega),if_neg (by omega)]
  .replace c:β.upto N _ id=some y:=c;rw[upto_high hid]at c;split at c
   .rename_i h;cases c;obtain⟨_,s,arr,fz,_,hn⟩:=j h.2;exact hn.new
   .split at c
    .rename_i h;cases c;obtain⟨_,s,arr,fz,_,hn⟩:=i h.2;exact hn.new
    .cases c
  .rcases g p hp with⟨rfl,m⟩|⟨rfl,m⟩
   .obtain⟨_,s,arr,fz,e,hn⟩:=j m;obtain⟨z,u⟩:=d h1 M s e;rw[g1 m]at c;cases c;exact⟨arr,fz,hn.row,hn.text z u⟩
   .obtain⟨_,s,arr,fz,e,hn⟩:=i m;obtain⟨z,u⟩:=d h2 k2 s e;rw[I m]at c;cases c;exact⟨arr,fz,hn.row,hn.text z u⟩
  .rcases g p hp with⟨rfl,m⟩|⟨rfl,m⟩<;>rcases g O K with⟨rfl,k⟩|⟨rfl,k⟩
   .rfl
   .rw[g1 m]at c;rw[I k]at n;cases c;cases n;exact absurd ((j m).1.symm.trans (e.trans (i k).1)) C
   .rw[I m]at c;rw[g1 k]at n;cases c;cases n;exact absurd ((j k).1.symm.trans (e.symm.trans (i m).1)) C
   .rfl
end
noncomputable section
def ZM(v:Value):Bool:=match v with|.int _ _=>true|.string _=>true|.bool _=>true|_=>false
section
variable[Unk]{P:Program}{tabs:List (Nat×zo)}{β:Inj}
theorem jl{op:BinOp}{k j:IntKind}{a b r v:zb}{m n:Int}(e:WF β a)(hb:WF β b)(d:WF β r)(c:zc β a = .int k m)(f:zc β b = .int j n)(h:Yb op k m j n=some v)(hv:zc β v=zc β r):zq P tabs β (.bin op a b r):=by
 refine⟨e,hb,d,by rw[c];rfl,fun t w=>?_⟩;rw[c,f,<- hv];exact(zeA h t β w).1
theorem zrE{k:IntKind}{a r:zb}{m c:Nat}(d:WF β a)(b:WF β r)(f:zc β a = .int k (m:Nat))(hc:c≠0)(e:zc β r = .int k (m % c:Nat)):zq P tabs β (.bin .rem a (.int k (.ofNat c)) r):=by
 refine jl (k:=k) (j:=k) (m:=(m:Nat)) (n:=(c:Nat)) d trivial b f rfl (v:=mkInt k (ziu (m:Nat) (c:Nat))) ?_ ?_
 .show ifB (zah (c:Nat) (.ofNat 0)) none (same k k (mkInt k (ziu (m:Nat) (c:Nat))))=_
  have:zah ((c:Nat):Int) (.ofNat 0)=false:=by
   rw[QA];simpa using hc
  rw[this,kT];unfold same;rw[zl,if_pos ((Xk _ _).2 rfl)]
 .rw[jL,zit,e];rfl
theorem zek{n:Int}(h1:-9223372036854775808<=n)(h2:n<=9223372036854775807):IntKind.i64.wrap n=n:=by
 unfold IntKind.wrap;simp only[IntKind.signed,IntKind.bits,Bool.true_and];split
 .rename_i h;have h:=of_decide_eq_true h;omega
 .rename_i h;have h:n % 18446744073709551616<9223372036854775808:=by simpa using h
  show n % 18446744073709551616=n;omega
theorem XR{n:Int}(h1:0<=n)(h2:n<18446744073709551616):IntKind.u64.wrap n=n:=by
 unfold IntKind.wrap;simp only[IntKind.signed,IntKind.bits,Bool.false_and];show n % 18446744073709551616=n;omega
theorem ZR{k j:IntKind}{a r:zb}{n:Int}(c:WF β a)(b:WF β r)(e:zc β a = .int j n)(d:zc β r = .int k n)(h:k.wrap n=n):zq P tabs β (.conv k a r):=
 ⟨c,b,j,n,e,by rw[d,h]⟩
theorem JJ{k:IntKind}{a b:zb}{m n:Int}{r:Bool}(d:WF β a)(hb:WF β b)(f:zc β a = .int k m)(e:zc β b = .int k n)(c:r=(m==n)):zq P tabs β (.eq 1 a b r):=⟨d,hb,.inl ⟨rfl,k,m,n,f,e,c⟩⟩
theorem XN{a b:zb}{s t:ByteArray}{r:Bool}(d:WF β a)(hb:WF β b)(f:zc β a = .string s)(e:zc β b = .string t)(c:r=decide (s=t)):zq P tabs β (.eq 2 a b r):=⟨d,hb,.inr (.inl ⟨rfl,s,t,f,e,c⟩)⟩
theorem zvU{a b:zb}{s t:Bool}{r:Bool}(d:WF β a)(hb:WF β b)(f:zc β a = .bool s)(e:zc β b = .bool t)(c:r=(s==t)):zq P tabs β (.eq 3 a b r):=⟨d,hb,.inr (.inr ⟨rfl,s,t,f,e,c⟩)⟩
theorem zvT{k:IntKind}{a b r:zb}{m n:Int}(d:WF β a)(hb:WF β b)(c:WF β r)(g:zc β a = .int k m)(f:zc β b = .int k n)(e:zc β r = .int k (if n<m then n else m)):zq P tabs β (.min a b r):=⟨d,hb,c,k,m,n,g,f,e⟩
theorem YP{a r:zb}{s:ByteArray}(c:WF β a)(b:WF β r)(e:zc β a = .string s)(d:zc β r = .int .i64 (s.size:Nat)):zq P tabs β (.len a r):=⟨c,b,s,e,d⟩
theorem QW{a r:zb}{p:Option Addr}{n c:Nat}(d:WF β a)(b:WF β r)(f:zc β a = .slice p n c)(e:zc β r = .int .i64 (n:Nat)):zq P tabs β (.slen a r):=⟨d,b,p,n,c,f,e⟩
theorem zxj{a h r:zb}{p:Option Addr}{n c k:Nat}{j:IntKind}(e:WF β a)(hh:WF β h)(b:WF β r)(i:zc β a = .slice p n c)(g:zc β h = .int j (Int.ofNat k))(d:k<=c)(f:zc β r = .slice p k c):zq P tabs β (.ssub a h r):=⟨e,hh,b,p,n,c,j,k,i,g,d,f⟩
theorem zzF{a b r:zb}{s t:ByteArray}(f:WF β a)(hb:WF β b)(d:WF β r)(c:zc β a = .string s)(g:zc β b = .string t)(e:zc β r = .string (s++t))(h:s.size+t.size<=1000000000):zq P tabs β (.bin .add a b r):=by
 refine⟨f,hb,d,by rw[c];rfl,fun _ w=>?_⟩;rw[c,g,e];show(Op.stringOp .add s t).run P w=_;have hm:IntKind.i64.max=9223372036854775807:=rfl;simp only[Op.stringOp];rw[if_neg (by rw[hm];omega)];rfl
theorem zdk{a:zb}{m:Nat}{c:Nat}(b:WF β a)(d:zc β a = .int .i64 (m:Nat))(h:m<=c):zq P tabs β (.bin .gtr a (.int .i64 (.ofNat c)) (.bool false)):=by
 refine jl (k:=.i64) (j:=.i64) (m:=(m:Nat)) (n:=(c:Nat)) b trivial trivial d rfl (v:=jA (ilt (c:Nat) (m:Nat))) rfl ?_;rw[yu,kS];have:decide (((c:Nat):Int)<((m:Nat):Int))=false:=by simpa using h
 rw[this]
theorem qz{w:World}:zZ P [] w:=⟨fun id=>some (Unk.place id),fun _ _=>rfl,fun p hp=>by cases hp⟩
end
section
variable[Unk]
theorem zq6{v:Value}(h:ZM v=true):∃z,qe z=v:=by
 cases v<;>first|exact zjI _ _|exact zjH _|exact zhi _|(cases h;done)
def codeOf(v:Value):Nat×Nat×Nat:=Classical.epsilon fun z=>qe z=v
theorem zfh{v:Value}(h:ZM v=true):qe (codeOf v)=v:=Classical.epsilon_spec (zq6 h)
def Yz(val:Nat->Value):Inj:=fun id=>if 100<=id/\id<300 then some (codeOf (val id)) else none
abbrev Bm(val:Nat->Value):Inj:=zJ (Yz val)
variable{val:Nat->Value}
theorem Zp:∀id z,Yz val id=some z->id<300:=by
 intro id z h;unfold Yz at h;split at h
 .rename_i h1;omega
 .cases h
theorem zhB{id:Nat}(h1:100<=id)(h2:id<300):Bm val id=some (codeOf (val id)):=by
 show zJ (Yz val) id=_;unfold zJ Yz;rw[if_neg (by omega),if_pos ⟨h1,h2⟩]
theorem Q6{id:Nat}(h1:id<100):Bm val id=some (Unk.place id):=by
 show zJ (Yz val) id=_;unfold zJ;rw[if_pos h1]
theorem zQ{id:Nat}(h2:id<300):WF (Bm val) (.sym id):=by
 by_cases h1:100<=id
 .simp[WF,zhB h1 h2]
 .simp[WF,Q6 (val:=val) (id:=id) (by omega)]
theorem zsQ{id:Nat}(h1:100<=id)(h2:id<300)(a:ZM (val id)=true):zc (Bm val) (.sym id)=val id:=by
 simp only[zc,zhB h1 h2,getD_some];exact zfh a
theorem zS{id:Nat}{v:Value}(h1:100<=id)(h2:id<300)(e:val id=v)(a:ZM v=true):zc (Bm val) (.sym id)=v:=by
 rw[zsQ h1 h2 (by rw[e];exact a),e]
theorem swf{id:Nat}(h2:id<300:=by decide):WF (Bm val) (.sym id):=zQ h2
theorem sat{id:Nat}{v:Value}(e:val id=v)(a:ZM v=true)(h1:100<=id:=by decide)(h2:id<300:=by decide):zc (Bm val) (.sym id)=v:=zS h1 h2 e a
theorem yc{id:Nat}(h1:id<100):zc (Bm val) (.sym id)=qe (Unk.place id):=by
 simp only[zc,Q6 h1,getD_some]
end
end
section
variable[Unk]
def qB(σ:Inj)(N m:Nat)(pl:Nat->Nat×Nat×Nat):Inj:=fun id=>if N<=id/\id<N+m then some (pl id) else zJ σ id
section
variable{E:Env}{σ:Inj}{N m:Nat}{pl:Nat->Nat×Nat×Nat}
theorem qv{id:Nat}(h1:N<=id)(h2:id<N+m):qB σ N m pl id=some (pl id):=if_pos ⟨h1,h2⟩
theorem JD{id:Nat}(h:id<N):qB σ N m pl id=zJ σ id:=if_neg (by omega)
theorem jT(h60:100<=N)(a:∀id x,σ id=some x->id<N):(zJ σ).le (qB σ N m pl):=by
 intro id x h
 have hid:id<N:=by
  unfold zJ at h;split at h
  .omega
  .exact a id x h
 rw[JD hid];exact h
theorem zhR(h60:100<=N)(n:∀id x,σ id=some x->id<N)(g:zD E.tabs=true){w:World}(v:zZ E.P E.tabs w){rin:List (Nat×zo)}(d:∀p∈rin,N<=p.1/\p.1<N+m)
  (hblk:∀p∈rin,zH E.P (qB σ N m pl) p.2 (pl p.1) w) (hinj:∀p∈rin,∀q∈rin,(pl p.1).1=(pl q.1).1->p.1=q.1) (hsep:∀p∈rin,∀t∈E.tabs,(Unk.place t.1).1≠(pl p.1).1):Rel E.P (qB σ N m pl) (qR E (N+m) rin) w:=by
 have S:Rel E.P (zJ σ) (ja E N) w:=zet h60 n g v;have hle:=jT (m:=m) (pl:=pl) h60 n
 have a:∀id b,(qR E (N+m) rin).blk.get id=some b->(id,b)∈rin\/((id,b)∈E.tabs/\id<100/\(ja E N).blk.get id=some b):=by
  intro id b h;rcases yn rin _ id b h with hm|⟨_,hm⟩
  .exact .inl hm
  .have:=kP _ _ _ hm;exact .inr ⟨this,(qH g _ this).1,hm⟩
 have low:∀id,id<100->qB σ N m pl id=some (Unk.place id):=fun id h=>by rw[JD (by omega)];exact if_pos h
 refine⟨by show 100<=N+m;omega,?_,?_,?_,?_⟩
 .intro id b x h1 h2;rcases a id b h1 with hm|⟨_,h3,f⟩
  .obtain⟨l,k⟩:=d _ hm;have h2:qB σ N m pl id=some x:=h2;rw[qv l k]at h2;cases h2;exact hblk _ hm
  .rw[JD (show id<N by omega)]at h2;exact(S.blk id b x f h2).mono hle
 .intro i j b c x y h1 h2 h3 f e;rcases a i b h1 with hm|⟨u,k2,_⟩<;>rcases a j c h3 with hn|⟨l1,l2,_⟩
  .obtain⟨l,k⟩:=d _ hm;obtain⟨r,o⟩:=d _ hn;rw[qv l k]at h2;rw[qv r o]at f;cases h2;cases f;exact .inl (hinj _ hm _ hn e)
  .obtain⟨l,k⟩:=d _ hm;rw[qv l k]at h2;rw[low j l2]at f;cases h2;cases f;exact absurd e.symm (hsep _ hm _ l1)
  .obtain⟨r,o⟩:=d _ hn;rw[qv r o]at f;rw[low i k2]at h2;cases h2;cases f;exact absurd e (hsep _ hn _ u)
  .exact .inr ⟨k2,l2⟩
 .intro id x h;show id<N+m;by_cases hi:N<=id/\id<N+m
  .exact hi.2
  .have h:qB σ N m pl id=some x:=h;unfold qB at h;rw[if_neg hi]at h;unfold zJ at h;split at h
   .omega
   .have:=n id x h;omega
 .intro id b h;show id<N+m;rcases a id b h with hm|⟨_,h3,_⟩
  .exact(d _ hm).2
  .omega
theorem znL(h60:100<=N)(f:∀id x,σ id=some x->id<N)(hfacts:zC E (zJ σ))(c:zD E.tabs=true)(i:Yx E (zJ σ)){rin:List (Nat×zo)}(b:∀p∈rin,N<=p.1/\p.1<N+m):Yv E (qB σ N m pl) (qR E (N+m) rin):=by
 have hle:=jT (m:=m) (pl:=pl) h60 f;refine⟨fun g h=>by rw[JD (by omega)];exact if_pos h,by show 100<=N+m;omega,hfacts.mono hle,fun p hp=>?_,i.mono hle⟩;obtain⟨k,_,j⟩:=qH c p hp;refine⟨k,?_⟩;show(qb rin (jq E.tabs)).get p.1=_;rw[Qh rin _ _ fun d a e=>by have:=(b d a).1;omega];exact j
structure zBi(w w2:World)(N m:Nat)(pl:Nat->Nat×Nat×Nat):Prop where
 frame:∀c,c<w.heap.size->(∀i,N<=i->i<N+m->(pl i).1≠c)->w2.heap[c]?=w.heap[c]?
 size:w.heap.size<=w2.heap.size
 tape:w2.tape=w.tape
 os:w2.os=w.os
 output:w2.output=w.output
theorem ZG(hF:FitA E)(h60:100<=N)(n:∀id x,σ id=some x->id<N)(hfacts:zC E (zJ σ))(y:Yx E (zJ σ))(g:zD E.tabs=true){w:World}(o:zZ E.P E.tabs w){rin:List (Nat×zo)}(d:∀p∈rin,N<=p.1/\p.1<N+m)
  (hblk:∀p∈rin,zH E.P (qB σ N m pl) p.2 (pl p.1) w) (hinj:∀p∈rin,∀q∈rin,(pl p.1).1=(pl q.1).1->p.1=q.1) (hsep:∀p∈rin,∀t∈E.tabs,(Unk.place t.1).1≠(pl p.1).1)
  {fuel:Nat}{f:FuncId}{args:List zb}{r:zb}{H':Heap} (h:qj E (jg E fuel) f args (qR E (N+m) rin)=some (r,H')) (hargs:WFs (qB σ N m pl) args) :
  Calls E.P f (zf (qB σ N m pl) args).toArray w fun e w2=>zBi w w2 N m pl/\∃γ,e = .returned (zc γ r)/\WF γ r/\(∀id,id<N+m->γ id=qB σ N m pl id)/\Rel E.P γ H' w2 /\
   (∀id x,N+m<=id->γ id=some x->w.heap.size<=x.1\/∃p∈rin,(pl p.1).1=x.1):=by
 have hR:=zhR h60 n g o d hblk hinj hsep;have v:=znL (pl:=pl) h60 n hfacts g y d
 have a:∀c,Range (qB σ N m pl) (qR E (N+m) rin) c->∃p∈rin,(pl p.1).1=c:=by
  rintro c ⟨id,b,x,z,h1,h2,rfl⟩
  rcases yn rin _ id b h1 with hm|⟨_,hm⟩
  .obtain⟨k,j⟩:=d _ hm;rw[qv k j]at h2;cases h2;exact⟨_,hm,rfl⟩
  .have:=(qH g _ (kP _ _ _ hm)).1;omega
 refine(zgE hF h hR v hargs).mono fun e w2 hx=>?_;obtain⟨x,rfl,γ,rfl,k,j,i⟩:=hx;refine⟨⟨fun c hc l=>i.frame c hc fun u=>?_,i.size,i.tape,i.os,i.output⟩,γ,rfl,k,fun id hid=>i.old id hid,j,fun id x hid hx=>?_⟩
 .obtain⟨p,hp,e⟩:=a c u;obtain⟨k,j⟩:=d p hp;exact l p.1 k j e
 .rcases i.new id x hid hx with h|h
  .exact .inl h
  .exact .inr (a _ h)
end
def zw(P:Program)(w:World)(x:Nat×Nat×Nat)(t:TypeId)(vs:List Value):Prop:=
 ∃arr fz,w.heap[x.1]?=some (.cells arr t fz)/\x.2.1+vs.length+x.2.2*qX P t<=arr.size/\(∀i,i<arr.size->¬(fz.1<=i/\i<fz.2))/\qX P t ∣ x.2.1/\∀j,j<vs.length->arr[x.2.1+j]?=vs[j]?
theorem zw.heap{P:Program}{w w':World}{x:Nat×Nat×Nat}{t:TypeId}{vs:List Value}(h:zw P w x t vs)(e:w'.heap[x.1]?=w.heap[x.1]?):zw P w' x t vs:=by
 unfold zw at h ⊢;rw[e];exact h
theorem Jn(a:Inj)(l:List zb):(zf a l).length=l.length:=by rw[zx,length_map]
theorem W0(a:Inj)(l:List zb)(j:Nat):(zf a l)[j]?=(l[j]?).map (zc a):=by rw[zx,List.getElem?_map]
theorem zw.blk{P:Program}{a:Inj}{w:World}{x:Nat×Nat×Nat}{t n:Nat}{l:List zb}(hn:l.length=n)(hw:WFs a l)(h:zw P w x t (zf a l)):zH P a (.cells t n (Tr.ofList l)) x w:=by
 obtain⟨arr,fz,h1,h2,h3,c,b⟩:=h;rw[Jn,hn]at h2;refine⟨arr,fz,h1,h2,fun i v hv=>?_,h3,c⟩;rw[Tr.qc]at hv;have hi:i<l.length:=(List.getElem?_eq_some_iff.1 hv).1;refine⟨(zV _ _).1 hw v (List.mem_of_getElem? hv),?_⟩;rw[b i (by rw[Jn];exact hi),W0,hv];rfl
theorem zw.of{P:Program}{b:Inj}{w:World}{x:Nat×Nat×Nat}{t n:Nat}{l:List zb}(hn:l.length=n)(h:zH P b (.cells t n (Tr.ofList l)) x w):zw P w x t (zf b l):=by
 obtain⟨arr,fz,h1,h2⟩:=h;refine⟨arr,fz,h1,?_,h2.thaw,h2.al,fun j a=>?_⟩
 .rw[Jn,hn];exact h2.size
 .rw[Jn]at a;rw[W0,List.getElem?_eq_getElem a];exact(h2.cell j _ (by rw[Tr.qc,List.getElem?_eq_getElem a])).2
theorem zqG{P:Program}{tabs:List (Nat×zo)}{β0:Inj}{f:FuncId}{args:List zb}{nx n id:Nat}{U o:zo}{r:zb}(h1:100<=id)(v:nx<=n)(O:WF β0 r)
  (hpl:∀β',WFs β' args->(β' id).isSome)
  (hc:∀β' w x,β0.le β'->(∀g,g<100->β' g=some (Unk.place g))->zZ P tabs w->(∀p∈tabs,(Unk.place p.1).1≠x.1)->β' id=some x->zH P β' U x w->WFs β' args ->
   Calls P f (zf β' args).toArray w fun e w2=>e = .returned (zc β' r)/\zH P β' o x w2/\(∀k,k<w.heap.size->k≠x.1->w2.heap[k]?=w.heap[k]?)/\w.heap.size<=w2.heap.size/\w2.tape=w.tape/\w2.os=w.os/\w2.output=w.output) :
  Zj P tabs β0 f args nx [(id,U)] [(id,o)] r n:=by
 intro β' H w hle hR t h J Q l;have a:=Q _ mem_cons_self;obtain⟨x,hx⟩:=Option.isSome_iff_exists.1 (hpl β' l);have K:=hR.blk _ _ _ a hx
 have I:∀p∈tabs,(Unk.place p.1).1≠x.1:=by
  intro p hp e;obtain⟨t1,t2⟩:=h p hp;have:=hR.Ze (.inr h1) t2 (t _ t1) a hx e;omega
 refine(hc β' w x hle t ⟨β',t,fun p hp=>hR.blk p.1 p.2 _ (h p hp).2 (t p.1 (h p hp).1)⟩ I hx K l).mono fun e w2 hq=>?_;obtain⟨rfl,q1,X,q6,q7,q8,q9⟩:=hq
 have c:∀i,(yq H [(id,U)] [(id,o)] n).blk.get i=if id=i then some o else H.blk.get i:=by
  intro i;show(Tr.set (H.blk.del id) id o).get i=_;rw[Tr.zK,Tr.jc];split<;>simp_all
 have B:∀i b y,id≠i->H.blk.get i=some b->β' i=some y->w2.heap[y.1]?=w.heap[y.1]?:=by
  intro i b y C hb Y;exact X _ (hR.blk i b y hb Y).lt fun e=>C (hR.Ze (.inl h1) a hx hb Y e.symm)
 obtain⟨L,Z⟩:=WF.mono hle _ O;refine⟨β',rfl,L,?_,?_⟩
 .refine⟨Nat.le_trans hR.base (by rw[J];exact v),?_,?_,?_,?_⟩
  .intro i b y u G;rw[c]at u;split at u
   .rename_i e;subst e;cases u;rw[hx]at G;cases G;exact q1
   .rename_i C;exact(hR.blk i b y u G).heap (B i b y C u G)
  .intro i j b d y z u G T e4 e;rw[c]at u T
   have M:∃b',H.blk.get i=some b':=by
    split at u
    .rename_i D;subst D;exact⟨_,a⟩
    .exact⟨_,u⟩
   have A:∃b',H.blk.get j=some b':=by
    split at T
    .rename_i D;subst D;exact⟨_,a⟩
    .exact⟨_,T⟩
   obtain⟨b1,M⟩:=M;obtain⟨b2,A⟩:=A;exact hR.inj i j b1 b2 y z M G A e4 e
  .intro i y e;show i<n;have:=hR.bnd i y e;omega
  .intro i b e;show i<n;rw[c]at e;split at e
   .rename_i D;subst D;have:=hR.live _ _ a;omega
   .have:=hR.live _ _ e;omega
 .refine⟨fun _ _=>rfl,by rw[J];exact v,fun i _ hn=>?_,fun i b _ e=>?_,fun i hi=>?_,fun i y hi e=>?_,fun k hk hr=>?_,q6,q7,q8,q9⟩
  .rw[c,if_neg];rintro rfl
   rw[hx]at hn;cases hn
  .rw[c]at e;split at e
   .rename_i D;subst D;exact⟨_,a⟩
   .exact⟨_,e⟩
  .rw[c,if_neg (by omega)]
  .have:=hR.bnd i y e;omega
  .exact X k hk fun e=>hr ⟨id,_,x,h1,a,hx,e.symm⟩
theorem zcP{P:Program}{tabs:List (Nat×zo)}{β0:Inj}{f:FuncId}{args:List zb}{nx n id t m:Nat}{l l':List zb}{r:zb}(hm:l.length=m)(U:l'.length=m)(h1:100<=id)(A:nx<=n)(T:WF β0 r)(X:WFs β0 l')
  (hpl:∀β',WFs β' args->(β' id).isSome)
  (hc:∀β' w x,β0.le β'->(∀g,g<100->β' g=some (Unk.place g))->zZ P tabs w->(∀p∈tabs,(Unk.place p.1).1≠x.1)->β' id=some x->zw P w x t (zf β' l)->WFs β' args ->
   Calls P f (zf β' args).toArray w fun e w2=>e = .returned (zc β' r)/\zw P w2 x t (zf β' l')/\(∀k,k<w.heap.size->k≠x.1->w2.heap[k]?=w.heap[k]?)/\w.heap.size<=w2.heap.size/\w2.tape=w.tape/\w2.os=w.os/\w2.output=w.output) :
  Zj P tabs β0 f args nx [(id,.cells t m (Tr.ofList l))] [(id,.cells t m (Tr.ofList l'))] r n:=by
 intro β' H w hle hR u h K Y o;have a:=Y _ mem_cons_self;obtain⟨x,hx⟩:=Option.isSome_iff_exists.1 (hpl β' o);have L:=hR.blk _ _ _ a hx
 have J:∀p∈tabs,(Unk.place p.1).1≠x.1:=by
  intro p hp e;obtain⟨t1,t2⟩:=h p hp;have:=hR.Ze (.inr h1) t2 (u _ t1) a hx e;omega
 refine(hc β' w x hle u ⟨β',u,fun p hp=>hR.blk p.1 p.2 _ (h p hp).2 (u p.1 (h p hp).1)⟩ J hx (zw.of hm L) o).mono fun e w2 hq=>?_;obtain⟨rfl,q1,q5,q6,q7,q8,q9⟩:=hq
 have c:∀i,(yq H [(id,.cells t m (Tr.ofList l))] [(id,.cells t m (Tr.ofList l'))] n).blk.get i=if id=i then some (.cells t m (Tr.ofList l')) else H.blk.get i:=by
  intro i;show(Tr.set (H.blk.del id) id (.cells t m (Tr.ofList l'))).get i=_;rw[Tr.zK,Tr.jc];split<;>simp_all
 have C:∀i b y,id≠i->H.blk.get i=some b->β' i=some y->w2.heap[y.1]?=w.heap[y.1]?:=by
  intro i b y D hb hy;exact q5 _ (hR.blk i b y hb hy).lt fun e=>D (hR.Ze (.inl h1) a hx hb hy e.symm)
 obtain⟨M,wr2⟩:=WF.mono hle _ T;obtain⟨O,wl2⟩:=WFs.mono hle _ X;refine⟨β',rfl,M,?_,?_⟩
 .refine⟨Nat.le_trans hR.base (by rw[K];exact A),?_,?_,?_,?_⟩
  .intro i b y v I;rw[c]at v;split at v
   .rename_i e;subst e;cases v;rw[hx]at I;cases I;exact q1.blk U O
   .rename_i D;exact(hR.blk i b y v I).heap (C i b y D v I)
  .intro i j b d y z v I Z e4 e;rw[c]at v Z
   have Q:∃b',H.blk.get i=some b':=by
    split at v
    .rename_i G;subst G;exact⟨_,a⟩
    .exact⟨_,v⟩
   have B:∃b',H.blk.get j=some b':=by
    split at Z
    .rename_i G;subst G;exact⟨_,a⟩
    .exact⟨_,Z⟩
   obtain⟨b1,Q⟩:=Q;obtain⟨b2,B⟩:=B;exact hR.inj i j b1 b2 y z Q I B e4 e
  .intro i y e;show i<n;have:=hR.bnd i y e;omega
  .intro i b e;show i<n;rw[c]at e;split at e
   .rename_i G;subst G;have:=hR.live _ _ a;omega
   .have:=hR.live _ _ e;omega
 .refine⟨fun _ _=>rfl,by rw[K];exact A,fun i _ hn=>?_,fun i b _ e=>?_,fun i hi=>?_,fun i y hi e=>?_,fun k hk hr=>?_,q6,q7,q8,q9⟩
  .rw[c,if_neg];rintro rfl
   rw[hx]at hn;cases hn
  .rw[c]at e;split at e
   .rename_i G;subst G;exact⟨_,a⟩
   .exact⟨_,e⟩
  .rw[c,if_neg (by omega)]
  .have:=hR.bnd i y e;omega
  .exact q5 k hk fun e=>hr ⟨id,_,x,h1,a,hx,e.symm⟩
theorem zqF{P:Program}{tabs:List (Nat×zo)}{β0:Inj}{f:FuncId}{args:List zb}{nx n id t m Q T k:Nat}{l l':List zb}(hm:l.length=m)(hm':l'.length=T)(h1:100<=id)(h2:id<nx)(D:nx<n)(hl':WFs β0 l')
  (hpl:∀β',WFs β' args->(β' id).isSome)
  (hc:∀β' w x,β0.le β'->(∀g,g<100->β' g=some (Unk.place g))->zZ P tabs w->(∀p∈tabs,(Unk.place p.1).1≠x.1)->β' id=some x->zw P w x t (zf β' l)->WFs β' args ->
   Calls P f (zf β' args).toArray w fun e w2=>(∃y:Nat×Nat×Nat,e = .returned (.slice (some ⟨y.1,y.2.1,none⟩) k k)/\w.heap.size<=y.1/\zw P w2 y Q (zf β' l'))/\(∀c,c<w.heap.size->c≠x.1->w2.heap[c]?=w.heap[c]?)/\w.heap.size<=w2.heap.size/\w2.tape=w.tape/\w2.os=w.os/\w2.output=w.output) :
  Zj P tabs β0 f args nx [(id,.cells t m (Tr.ofList l))] [(nx,.cells Q T (Tr.ofList l'))] (.slice nx 0 k k true) n:=by
 intro β' H w hle hR C r hnx hin A;have v:=hin _ mem_cons_self;obtain⟨x,hx⟩:=Option.isSome_iff_exists.1 (hpl β' A);have Y:=hR.blk _ _ _ v hx
 have U:∀p∈tabs,(Unk.place p.1).1≠x.1:=by
  intro p hp e;obtain⟨t1,t2⟩:=r p hp;have:=hR.Ze (.inr h1) t2 (C _ t1) v hx e;omega
 refine(hc β' w x hle C ⟨β',C,fun p hp=>hR.blk p.1 p.2 _ (r p hp).2 (C p.1 (r p hp).1)⟩ U hx (zw.of hm Y) A).mono fun e w2 hq=>?_;obtain⟨⟨y,rfl,q0,q1⟩,q5,q6,q7,q8,q9⟩:=hq;subst hnx;have hf:β' H.next=none:=hR.fresh (Nat.le_refl _);have G:β'.le (β'.put H.next y):=Inj.kX hf;have O:(β'.put H.next y) H.next=some y:=Inj.zL _ _ _
 have a:∀i,(yq H [(id,.cells t m (Tr.ofList l))] [(H.next,.cells Q T (Tr.ofList l'))] n).blk.get i=if H.next=i then some (.cells Q T (Tr.ofList l')) else if id=i then none else H.blk.get i:=by
  intro i;show(Tr.set (H.blk.del id) H.next (.cells Q T (Tr.ofList l'))).get i=_;rw[Tr.zK,Tr.jc]
 have old:∀i z,i≠H.next->β'.put H.next y i=some z->β' i=some z:=fun i z h1 h2=>by rw[Inj.qg _ _ h1]at h2;exact h2
 have J:∀i b z,id≠i->H.blk.get i=some b->β' i=some z->w2.heap[z.1]?=w.heap[z.1]?:=by
  intro i b z K hb hz;exact q5 _ (hR.blk i b z hb hz).lt fun e=>K (hR.Ze (.inl h1) v hx hb hz e.symm)
 obtain⟨wl1,wl2⟩:=WFs.mono hle _ hl';obtain⟨wl3,wl4⟩:=WFs.mono G _ wl1;refine⟨β'.put H.next y,?_,⟨by rw[O];rfl,Nat.le_refl _⟩,?_,?_⟩
 .simp[zc,Inj.addr,Inj.blk,Inj.sh,O]
 .refine⟨Nat.le_trans hR.base (Nat.le_of_lt D),?_,?_,?_,?_⟩
  .intro i b z o B;rw[a]at o;split at o
   .rename_i e;subst e;cases o;rw[O]at B;cases B;exact zw.blk hm' wl3 (by rw[wl4];exact q1)
   .rename_i K;split at o
    .cases o
    .rename_i X;have B:=old i z (fun h=>K h.symm) B;exact((hR.blk i b z o B).heap (J i b z X o B)).mono G
  .intro i j b d z u o B I Z e;rw[a]at o I;split at o<;>split at I
   .rename_i M L;exact .inl (M.symm.trans L)
   .rename_i M L;subst M;split at I
    .cases I
    .rw[O]at B;cases B;have:=(hR.blk j d u I (old j u (fun h=>L h.symm) Z)).lt;omega
   .rename_i M L;subst L;split at o
    .cases o
    .rw[O]at Z;cases Z;have:=(hR.blk i b z o (old i z (fun h=>M h.symm) B)).lt;omega
   .rename_i M L;split at o
    .cases o
    .split at I
     .cases I
     .exact hR.inj i j b d z u o (old i z (fun h=>M h.symm) B) I (old j u (fun h=>L h.symm) Z) e
  .intro i z e;show i<n;by_cases hi:i=H.next
   .omega
   .have:=hR.bnd i z (old i z hi e);omega
  .intro i b e;show i<n;rw[a]at e;split at e
   .omega
   .split at e
    .cases e
    .have:=hR.live _ _ e;omega
 .refine⟨fun i hi=>Inj.qg _ _ (by omega),Nat.le_of_lt D,fun i hi hn=>?_,fun i b hi e=>?_,fun i hi=>?_,fun i z hi e=>?_,fun c hc hr=>?_,q6,q7,q8,q9⟩
  .rw[a,if_neg (by omega),if_neg];rintro rfl
   rw[hx]at hn;cases hn
  .rw[a,if_neg (by omega)]at e;split at e
   .cases e
   .exact⟨_,e⟩
  .have:=hR.base;rw[a,if_neg (by omega),if_neg (by omega)]
  .by_cases h:i=H.next
   .subst h;rw[O]at e;cases e;exact .inl q0
   .have:=hR.bnd i z (old i z h e);omega
  .exact q5 c hc fun e=>hr ⟨id,_,x,h1,v,hx,e.symm⟩
end
section
variable[Unk]
theorem VY:∀(l:List (Nat×zo)) (t:Tr zo) (i:Nat),(yq ⟨t,0⟩ l [] 0).blk.get i=if l.any (fun p=>Nat.beq p.1 i) then none else t.get i
 | [],t,i=>rfl
 | p::l,t,i=>by
  have a:=VY l t i;show(Tr.del (yq ⟨t,0⟩ l [] 0).blk p.1).get i=_;rw[Tr.jc,a];by_cases h:p.1=i
  .subst h;simp
  .have e:Nat.beq p.1 i=false:=by rw[zu];simpa using h
   have b:(p::l).any (fun p=>Nat.beq p.1 i)=l.any (fun p=>Nat.beq p.1 i):=by rw[any_cons,e,Bool.false_or]
   rw[if_neg h,b]
theorem znT{P:Program}{tabs:List (Nat×zo)}{β0:Inj}{f:FuncId}{args:List zb}{nx n:Nat}{rin:List (Nat×zo)}{r:zb}(h1:∀p∈rin,100<=p.1)(A:nx<=n)(L:WF β0 r)
  (hpl:∀β' w,β0.le β'->WFs β' args->(∀p∈rin,∀x,β' p.1=some x->zH P β' p.2 x w)->∀p∈rin,(β' p.1).isSome)
  (hc:∀β' w,β0.le β'->(∀g,g<100->β' g=some (Unk.place g))->zZ P tabs w->(∀p∈rin,∃x,β' p.1=some x/\zH P β' p.2 x w/\∀t∈tabs,(Unk.place t.1).1≠x.1)->(∀p∈rin,∀q∈rin,∀x y,β' p.1=some x->β' q.1=some y->x.1=y.1->p.1=q.1)->WFs β' args ->
   Calls P f (zf β' args).toArray w fun e w2=>e = .returned (zc β' r)/\(∀k,k<w.heap.size->(∀p∈rin,∀x,β' p.1=some x->k≠x.1)->w2.heap[k]?=w.heap[k]?)/\w.heap.size<=w2.heap.size/\w2.tape=w.tape/\w2.os=w.os/\w2.output=w.output) :
  Zj P tabs β0 f args nx rin [] r n:=by
 intro β' H w hle hR v c G l u;have m:=hpl β' w hle u (fun p hp x hx=>hR.blk _ _ _ (l p hp) hx)
 have D:∀p∈rin,∃x,β' p.1=some x/\zH P β' p.2 x w/\∀t∈tabs,(Unk.place t.1).1≠x.1:=by
  intro p hp;obtain⟨x,hx⟩:=Option.isSome_iff_exists.1 (m p hp);refine⟨x,hx,hR.blk _ _ _ (l p hp) hx,fun t Z e=>?_⟩;obtain⟨t1,t2⟩:=c t Z;have:=hR.Ze (.inr (h1 p hp)) t2 (v _ t1) (l p hp) hx e;have:=h1 p hp;omega
 have C:∀p∈rin,∀q∈rin,∀x y,β' p.1=some x->β' q.1=some y->x.1=y.1->p.1=q.1:=fun p hp q hq x y hx I e=>hR.Ze (.inl (h1 p hp)) (l p hp) hx (l q hq) I e;refine(hc β' w hle v ⟨β',v,fun p hp=>hR.blk p.1 p.2 _ (c p hp).2 (v p.1 (c p hp).1)⟩ D C u).mono fun e w2 hq=>?_;obtain⟨rfl,O,Y,X,U,T⟩:=hq;have o:∀i,(yq H rin [] n).blk.get i=if rin.any (fun p=>Nat.beq p.1 i) then none else H.blk.get i:=fun i=>VY rin H.blk i
 have a:∀i b,(yq H rin [] n).blk.get i=some b->H.blk.get i=some b/\∀p∈rin,p.1≠i:=by
  intro i b e;rw[o]at e;split at e
  .cases e
  .rename_i hn;refine⟨e,fun p hp h=>hn ?_⟩;rw[List.any_eq_true];exact⟨p,hp,by rw[zu];simpa using h⟩
 have B:∀i b y,(∀p∈rin,p.1≠i)->H.blk.get i=some b->β' i=some y->w2.heap[y.1]?=w.heap[y.1]?:=by
  intro i b y M hb I;refine O _ (hR.blk i b y hb I).lt fun p hp x hx e=>?_;exact M p hp (hR.Ze (.inl (h1 p hp)) (l p hp) hx hb I e.symm)
 obtain⟨K,Q⟩:=WF.mono hle _ L;refine⟨β',rfl,K,?_,?_⟩
 .refine⟨Nat.le_trans hR.base (by rw[G];exact A),?_,?_,?_,?_⟩
  .intro i b y N J;obtain⟨g1,g2⟩:=a i b N;exact(hR.blk i b y g1 J).heap (B i b y g2 g1 J)
  .intro i j b d y z N J e3 e4 e;exact hR.inj i j b d y z (a i b N).1 J (a j d e3).1 e4 e
  .intro i y e;show i<n;have:=hR.bnd i y e;omega
  .intro i b e;show i<n;have:=hR.live _ _ (a i b e).1;omega
 .refine⟨fun _ _=>rfl,by rw[G];exact A,fun i hi hn=>?_,fun i b _ e=>⟨b,(a i b e).1⟩,fun i hi=>?_,fun i y hi e=>?_,fun k hk hr=>?_,Y,X,U,T⟩
  .rw[o,if_neg];rw[List.any_eq_true];rintro⟨p,hp,h⟩
   have h:p.1=i:=by rw[zu]at h;simpa using h
   have:=m p hp;rw[h,hn]at this;cases this
  .rw[o,if_neg];rw[List.any_eq_true];rintro⟨p,hp,h⟩
   have h:p.1=i:=by rw[zu]at h;simpa using h
   have:=h1 p hp;omega
  .have:=hR.bnd i y e;omega
  .refine O k hk fun p hp x hx e=>hr ⟨p.1,_,x,h1 p hp,l p hp,hx,e.symm⟩
theorem zqE{P:Program}{tabs:List (Nat×zo)}{β0:Inj}{f:FuncId}{args:List zb}{nx n:Nat}{rin:List (Nat×zo)}{o:Nat×zo}{r:zb}(h1:∀p∈rin,100<=p.1)(ho:∃p∈rin,p.1=o.1)(B:nx<=n)(X:WF β0 r)
  (hpl:∀β' w,β0.le β'->WFs β' args->(∀p∈rin,∀x,β' p.1=some x->zH P β' p.2 x w)->∀p∈rin,(β' p.1).isSome)
  (hc:∀β' w,β0.le β'->(∀g,g<100->β' g=some (Unk.place g))->zZ P tabs w->(∀p∈rin,∃x,β' p.1=some x/\zH P β' p.2 x w/\∀t∈tabs,(Unk.place t.1).1≠x.1)->(∀p∈rin,∀q∈rin,∀x y,β' p.1=some x->β' q.1=some y->x.1=y.1->p.1=q.1)->WFs β' args ->
   Calls P f (zf β' args).toArray w fun e w2=>e = .returned (zc β' r)/\(∀k,k<w.heap.size->(∀p∈rin,∀x,β' p.1=some x->k≠x.1)->w2.heap[k]?=w.heap[k]?)/\w.heap.size<=w2.heap.size/\w2.tape=w.tape/\w2.os=w.os/\w2.output=w.output/\∀x,β' o.1=some x->zH P β' o.2 x w2) :
  Zj P tabs β0 f args nx rin [o] r n:=by
 intro β' H w hle hR A c L a v;have l:=hpl β' w hle v (fun p hp x hx=>hR.blk _ _ _ (a p hp) hx)
 have K:∀p∈rin,∃x,β' p.1=some x/\zH P β' p.2 x w/\∀t∈tabs,(Unk.place t.1).1≠x.1:=by
  intro p hp;obtain⟨x,hx⟩:=Option.isSome_iff_exists.1 (l p hp);refine⟨x,hx,hR.blk _ _ _ (a p hp) hx,fun t ht e=>?_⟩;obtain⟨t1,t2⟩:=c t ht;have:=hR.Ze (.inr (h1 p hp)) t2 (A _ t1) (a p hp) hx e;have:=h1 p hp;omega
 have I:∀p∈rin,∀q∈rin,∀x y,β' p.1=some x->β' q.1=some y->x.1=y.1->p.1=q.1:=fun p hp q hq x y hx Q e=>hR.Ze (.inl (h1 p hp)) (a p hp) hx (a q hq) Q e;refine(hc β' w hle A ⟨β',A,fun p hp=>hR.blk p.1 p.2 _ (c p hp).2 (A p.1 (c p hp).1)⟩ K I v).mono fun e w2 hq=>?_;obtain⟨rfl,q5,q6,q7,q8,q9,U⟩:=hq
 have m:∀i,(yq H rin [o] n).blk.get i=if o.1=i then some o.2 else if rin.any (fun p=>Nat.beq p.1 i) then none else H.blk.get i:=by
  intro i;show(Tr.set (yq ⟨H.blk,0⟩ rin [] 0).blk o.1 o.2).get i=_;rw[Tr.zK,VY]
 have u:∀i b,o.1≠i->(yq H rin [o] n).blk.get i=some b->H.blk.get i=some b/\∀p∈rin,p.1≠i:=by
  intro i b hi e;rw[m,if_neg hi]at e;split at e
  .cases e
  .rename_i hn;refine⟨e,fun p hp h=>hn ?_⟩;rw[List.any_eq_true];exact⟨p,hp,by rw[zu];simpa using h⟩
 have C:∀i b y,(∀p∈rin,p.1≠i)->H.blk.get i=some b->β' i=some y->w2.heap[y.1]?=w.heap[y.1]?:=by
  intro i b y Y hb Q;refine q5 _ (hR.blk i b y hb Q).lt fun p hp x hx e=>?_;exact Y p hp (hR.Ze (.inl (h1 p hp)) (a p hp) hx hb Q e.symm)
 obtain⟨O,D,M⟩:=ho
 have hold:∀i b,(yq H rin [o] n).blk.get i=some b->∃b',H.blk.get i=some b':=by
  intro i b e;by_cases hi:o.1=i
  .exact⟨O.2,by rw[<- hi,<- M];exact a O D⟩
  .exact⟨b,(u i b hi e).1⟩
 obtain⟨T,wr2⟩:=WF.mono hle _ X;refine⟨β',rfl,T,?_,?_⟩
 .refine⟨Nat.le_trans hR.base (by rw[L];exact B),?_,?_,?_,?_⟩
  .intro i b y J N;by_cases hi:o.1=i
   .subst hi;rw[m,if_pos rfl]at J;cases J;exact U y N
   .obtain⟨g1,g2⟩:=u i b hi J;exact(hR.blk i b y g1 N).heap (C i b y g2 g1 N)
  .intro i j b d y z J N Z e4 e;obtain⟨b',J⟩:=hold i b J;obtain⟨d',Z⟩:=hold j d Z;exact hR.inj i j b' d' y z J N Z e4 e
  .intro i y e;show i<n;have:=hR.bnd i y e;omega
  .intro i b e;show i<n;obtain⟨b',e⟩:=hold i b e;have:=hR.live _ _ e;omega
 .refine⟨fun _ _=>rfl,by rw[L];exact B,fun i hi hn=>?_,fun i b _ e=>hold i b e,fun i hi=>?_,fun i y hi e=>?_,fun k hk hr=>?_,q6,q7,q8,q9⟩
  .have G:o.1≠i:=by
    rintro rfl
    have:=l O D;rw[M,hn]at this;cases this
   rw[m,if_neg G,if_neg];rw[List.any_eq_true];rintro⟨p,hp,h⟩
   have h:p.1=i:=by rw[zu]at h;simpa using h
   have:=l p hp;rw[h,hn]at this;cases this
  .have G:o.1≠i:=by
    have:=h1 O D;omega
   rw[m,if_neg G,if_neg];rw[List.any_eq_true];rintro⟨p,hp,h⟩
   have h:p.1=i:=by rw[zu]at h;simpa using h
   have:=h1 p hp;omega
  .have:=hR.bnd i y e;omega
  .refine q5 k hk fun p hp x hx e=>hr ⟨p.1,_,x,h1 p hp,a p hp,hx,e.symm⟩
end
section
noncomputable section
def okE(v:zb):Bool:=match v with|.int k n=>zn (Wi k) (zn (kI (ilt n (.ofNat 0))) (kI (ilt (.ofNat 64) n)))|.sym i=>zn (Nat.ble 132 i) (blt i 140)|_=>false
def zeZ(v:zb):Bool:=match v with|.int k n=>zn (Wi k) (zah n (.ofNat 0))|_=>false
def zcD(r:Row)(l cp:Nat):Bool:=zn (Nat.beq r.t 3) (zn (Nat.ble cp r.n) (zn (Nat.ble l cp) (zn (blt 0 l) (zh (Tr.JX l r.c 0) false fun cs=>ifB (Nat.ble l 5) (Q0 okE cs) (zn (Nat.beq l 64) (Q0 zeZ cs))))))
def zqe(b:Nat)(v:zb)(H:Heap):Bool:=zh (zfo v) false fun q=>zn (zn (Nat.ble 142 q) (blt q 144)) (zh (H.blk.get b) false fun k=>zh (zgC k) false fun p=>zn (Nat.beq p.1 3) (qs p.2 v))
def U5(H:Heap)(v:zb):Bool:=
 match v with
 | .nilslice=>true
 | .slice b o l cp _=>zn (Nat.beq o 0) (zn (Nat.ble 300 b) (zh (H.row b) false fun r=>zcD r l cp))
 | .osl b s=>zn (Nat.ble 300 b) (zqe b s H)
 | _=>false
def kp(v:zb):Option Nat:=match v with|.slice b _ _ _ _=>some b|.osl b _=>some b|_=>none
def ztr(v w:zb):Bool:=zh (kp v) true fun b=>zh (kp w) true fun c=>kI (Nat.beq b c)
end
def yK(val:Nat->Value)(u:zb):Nat:=match u with|.int _ n=>n.toNat|.sym i=>zh6 (val i)|_=>0
def elems(val:Nat->Value)(cs:List zb):ByteArray:=⟨(cs.map fun u=>UInt8.ofNat (yK val u)).toArray⟩
def Qw:ByteArray:=⟨(List.replicate 64 0).toArray⟩
def Small(s:ByteArray):Prop:=0<s.size/\((s.size<=5/\∀(i:Nat) (c:UInt8),s.data[i]?=some c->c.toNat<=64)\/s=Qw)
noncomputable def XM(val:Nat->Value)(H:Heap)(v:zb):Option ByteArray:=
 match v with
 | .slice b _ l _ _=>some (elems val (((H.row b).bind fun r=>Tr.JX l r.c 0).getD []))
 | .osl _ (.sym q)=>some (sOf (val q))
 | _=>none
def yB(o:Option ByteArray):Prop:=∀s,o=some s->Small s
structure zej(val:Nat->Value):Prop where
 el:∀i,132<=i->i<140->∃n:Nat,n<=64/\val i = .int .i64 (n:Nat)
 st:∀q,142<=q->q<144->∃s,val q = .string s/\Small s
section
variable[Unk]{P:Program}{val:Nat->Value}
theorem zqh{a:Inj}(hv:zej val)(hlow:∀id,id<300->a id=Bm val id){u:zb}(h:okE u=true):yK val u<=64/\zc a u = .int .i64 (yK val u:Nat):=by
 cases u<;>simp only[okE]at h<;>first|(cases h;done)|skip
 .rename_i k n;simp only[zk,Bool.and_eq_true,qI,yu]at h;obtain⟨h1,h2,h3⟩:=h;have h1:=Zd h1;subst h1;have h2:¬(n<0):=by simpa using h2
  have h3:¬((64:Int)<n):=by
   have:=h3;simp only[Bool.not_eq_true',decide_eq_false_iff_not]at this;exact this
  refine⟨by simp only[yK];omega,?_⟩;simp only[zc,yK];congr 1
  omega
 .rename_i i;simp only[zk,Bool.and_eq_true,zG,zN,decide_eq_true_eq]at h;obtain⟨n,hn,e⟩:=hv.el i h.1 h.2;have b:yK val (.sym i)=n:=by simp[yK,e,zh6]
  refine⟨by rw[b];exact hn,?_⟩;rw[b];have:zc a (.sym i)=zc (Bm val) (.sym i):=by simp only[zc,hlow i (by omega)]
  rw[this];exact zS (by omega) (by omega) e rfl
theorem VW(cs:List zb):(elems val cs).size=cs.length:=by simp[elems,ByteArray.size]
theorem zfe(cs:List zb)(i:Nat):(elems val cs).data[i]?=(cs[i]?).map fun u=>UInt8.ofNat (yK val u):=by simp[elems]
theorem zix{γ:Inj}{u:zb}(h:zeZ u=true):yK val u=0/\zc γ u = .int .i64 (yK val u:Nat):=by
 cases u<;>simp only[zeZ]at h<;>first|(cases h;done)|skip
 rename_i k n;rw[zk,Bool.and_eq_true,QA]at h;have h1:=Zd h.1;subst h1;have h2:n=0:=by simpa using h.2
 subst h2;exact⟨rfl,rfl⟩
theorem KJ{r:Row}{l cp:Nat}(h:zcD r l cp=true):r.t=3/\cp<=r.n/\l<=cp/\0<l/\∃cs,Tr.JX l r.c 0=some cs/\((l<=5/\∀u∈cs,okE u=true)\/(l=64/\∀u∈cs,zeZ u=true)):=by
 unfold zcD at h;simp only[zk,Bool.and_eq_true,zu,beq_iff_eq,zG,zN,decide_eq_true_eq]at h;obtain⟨h1,h2,h3,e,a⟩:=h
 cases b:Tr.JX l r.c 0 with
 | none=>rw[b]at a;cases a
 | some cs=>
  rw[b,zd,zl]at a;refine⟨h1,h2,h3,e,cs,rfl,?_⟩;split at a
  .rename_i d;rw[decide_eq_true_eq]at d;rw[ZX]at a;exact .inl ⟨d,List.all_eq_true.1 a⟩
  .rw[Bool.and_eq_true,beq_iff_eq,ZX]at a;exact .inr ⟨a.1,List.all_eq_true.1 a.2⟩
theorem zBE{c:Inj}(hv:zej val)(hlow:∀id,id<300->c id=Bm val id){l:Nat}{cs:List zb}(h:(l<=5/\∀u∈cs,okE u=true)\/(l=64/\∀u∈cs,zeZ u=true)):∀u∈cs,yK val u<=64/\zc c u = .int .i64 (yK val u:Nat):=by
 intro u d;rcases h with⟨_,h⟩|⟨_,h⟩
 .exact zqh hv hlow (h u d)
 .obtain⟨a,b⟩:=zix (val:=val) (γ:=c) (h u d);exact⟨by omega,b⟩
theorem zhs{a:Inj}(hv:zej val)(hlow:∀id,id<300->a id=Bm val id){l:Nat}{cs:List zb}(hl:cs.length=l)(f:0<l)(h:(l<=5/\∀u∈cs,okE u=true)\/(l=64/\∀u∈cs,zeZ u=true)):Small (elems val cs):=by
 refine⟨by rw[VW];omega,?_⟩;rcases h with⟨e,h⟩|⟨e,h⟩
 .refine .inl ⟨by rw[VW];omega,fun i c hc=>?_⟩;rw[zfe]at hc;obtain⟨u,d,rfl⟩:=Option.map_eq_some_iff.1 hc;have:=(zqh hv hlow (h u (List.mem_of_getElem? d))).1;rw[toNat_ofNat'];omega
 .refine .inr ?_;unfold elems Qw
  have:cs.map (fun u=>UInt8.ofNat (yK val u))=List.replicate 64 0:=by
   rw[List.eq_replicate_iff];refine⟨by rw[length_map];omega,fun b hb=>?_⟩;obtain⟨u,d,rfl⟩:=List.mem_map.1 hb;rw[(zix (val:=val) (γ:=a) (h u d)).1];rfl
  rw[this]
theorem zcC{b:Nat}{v:zb}{H:Heap}(h:zqe b v H=true):∃q,v = .sym q/\142<=q/\q<144/\H.blk.get b=some (.ints 3 (.sym q)):=by
 unfold zqe at h
 cases hq:zfo v with
 | none=>rw[hq]at h;cases h
 | some q=>
  rw[hq,zd]at h;obtain rfl:=zja hq;simp only[zk,Bool.and_eq_true,zG,zN,decide_eq_true_eq]at h;obtain⟨⟨h1,h2⟩,h3⟩:=h
  cases hb:H.blk.get b with
  | none=>rw[hb]at h3;cases h3
  | some k=>
   rw[hb,zd]at h3
   cases a:zgC k with
   | none=>rw[a]at h3;cases h3
   | some p=>
    rw[a,zd]at h3;simp only[Bool.and_eq_true,zu,beq_iff_eq]at h3;obtain rfl:=zfq a;have c:=zM _ _ h3.2;refine⟨q,rfl,h1,h2,?_⟩;rw[h3.1,c]
theorem zhw{f:Inj}{H':Heap}(hv:zej val)(hlow:∀id,id<300->f id=Bm val id){c:zb}(hc:U5 H' c=true):yB (XM val H' c):=by
 intro s hs;cases c<;>simp only[U5]at hc<;>first|(cases hc;done)|skip
 .cases hs
 .rename_i b o l cp ex;simp only[zk,Bool.and_eq_true]at hc;obtain⟨_,_,h3⟩:=hc
  cases d:H'.row b with
  | none=>rw[d]at h3;cases h3
  | some r=>
   rw[d,zd]at h3;obtain⟨_,_,_,i,cs,e,h⟩:=KJ h3;simp only[XM,d,bind_some,e,getD_some,Option.some.injEq]at hs;subst hs;have hl:=(Tr.jx _ _ _ _ e).1;exact zhs hv hlow hl i h
 .rename_i b v;simp only[zk,Bool.and_eq_true]at hc;obtain⟨q,rfl,h1,h2,_⟩:=zcC hc.2;obtain⟨u,g,a⟩:=hv.st q h1 h2;simp only[XM,g,sOf,Option.some.injEq]at hs;subst hs;exact a
theorem zpu{a:Inj}{H':Heap}{w w2:World}(hv:zej val)(h1:qX P 3=1)(hR:Rel P a H' w2)(d:∀id x,300<=id->a id=some x->w.heap.size<=x.1)(hlow:∀id,id<300->a id=Bm val id){c:zb}(hc:U5 H' c=true)(hw:WF a c) :
  UF P .i64 3 w w2 (((kp c).map a.blk).getD 0) (zc a c) (XM val H' c):=by
 cases c<;>simp only[U5]at hc<;>first|(cases hc;done)|skip
 .rfl
 .rename_i b o l cp ex;simp only[zk,Bool.and_eq_true,zu,beq_iff_eq,zG,decide_eq_true_eq]at hc;obtain⟨rfl,h2,h3⟩:=hc
  cases j:H'.row b with
  | none=>rw[j]at h3;cases h3
  | some r=>
   rw[j,zd]at h3;obtain⟨m,f,D,I,cs,t,C⟩:=KJ h3;have B:=zBE hv hlow C;have g:=Tr.jx _ _ _ _ t;simp only[XM,j,bind_some,t,getD_some,UF,kp,map_some]
   have:=zaT (P:=P) (γ:=a) (H':=H') (w:=w) (w2:=w2) (b:=b) (l:=l) (cp:=cp) (ex:=ex) (r:=r) (s:=elems val cs) (k:=.i64) hR j hw.1 (fun x hx=>d b x h2 hx) (by rw[m];exact h1) f (by rw[VW];exact g.1.symm) D (fun i c hc=>by
    rw[zfe]at hc;obtain⟨u,e,rfl⟩:=Option.map_eq_some_iff.1 hc;obtain⟨H,k2⟩:=B u (List.mem_of_getElem? e);have hi:i<l:=by have:=(List.getElem?_eq_some_iff.1 e).1;omega
    refine⟨u,?_,?_⟩
    .have:=g.2 i hi;rw[Nat.zero_add]at this;rw[this];exact e
    .rw[k2,toNat_ofNat',mod_eq_of_lt (by omega)])
   rw[m]at this;exact this
 .rename_i b v;simp only[zk,Bool.and_eq_true,zG,decide_eq_true_eq]at hc;obtain⟨q,rfl,q1,q2,hb⟩:=zcC hc.2;obtain⟨u,e,y⟩:=hv.st q q1 q2;obtain⟨x,hx⟩:=Option.isSome_iff_exists.1 hw.1;obtain⟨arr,fz,m,f⟩:=hR.blk b _ x hb hx;have p:a.blk b=x.1:=by simp[Inj.blk,hx]
  have A:a.sh b=x.2.1:=by simp[Inj.sh,hx]
  have z:a.ext b=x.2.2:=by simp[Inj.ext,hx]
  have n:zc a (.sym q) = .string u:=by
   have:zc a (.sym q)=zc (Bm val) (.sym q):=by simp only[zc,hlow q (by omega)]
   rw[this];exact zS (by omega) (by omega) e rfl
  simp only[XM,e,sOf,UF,kp,map_some,getD_some];refine⟨x,arr,fz,p.symm,?_,d b x hc.1 hx,m,?_,f.size,fun i c hc=>f.cell i c (by rw[n];exact hc),f.thaw,h1⟩
  .rw[zc,n];simp[sOf,Inj.addr,p,A,z]
  .obtain⟨G,h,hle⟩:=f.is;rw[n]at h;cases h;exact hle
theorem YG{b:Inj}(hlow:∀id,id<300->b id=Bm val id):∀ {l:List zb},(∀v∈l,JW 300 v=true)->WFs (Bm val) l->zf b l=zf (Bm val) l
 | [],_,_=>rfl
 | a::l,h,hw=>by
  obtain⟨_,c⟩:=zbE (β:=Bm val) (γ:=b) hlow (h a mem_cons_self) hw.1;rw[zf,zf,c,YG hlow (fun v hv=>h v (mem_cons_of_mem _ hv)) hw.2]
theorem zlZ{E:Env}(hF:Fit E)(hv:zej val)(hfacts:zC E (Bm val))(D:zD E.tabs=true)(h1:qX E.P 3=1){fuel:Nat}{f:FuncId}{args l1 l2:List zb}{c d:zb}{H':Heap}
  (hrun:qj E (jg E fuel) f args (ja E 300)=some (.agg (l1++c::d::l2),H')) (hl1:∀v∈l1,JW 300 v=true) (hl2:∀v∈l2,JW 300 v=true) (hw1:WFs (Bm val) l1) (hw2:WFs (Bm val) l2)
  (hc:U5 H' c=true) (hd:U5 H' d=true) (i:ztr c d=true) (hargs:WFs (Bm val) args) :
  yB (XM val H' c)/\yB (XM val H' d)/\∀w,zZ E.P E.tabs w->Calls E.P f (zf (Bm val) args).toArray w fun e w2=>Grown w w2/\∃v1 v2 L K,L≠K /\
   e = .returned (.agg (zf (Bm val) l1++v1::v2::zf (Bm val) l2).toArray)/\UF E.P .i64 3 w w2 L v1 (XM val H' c)/\UF E.P .i64 3 w w2 K v2 (XM val H' d):=by
 refine⟨zhw hv (fun _ _=>rfl) hc,zhw hv (fun _ _=>rfl) hd,fun w hw=>?_⟩;refine(je hF (by decide) Zp hfacts D hrun hargs hw).mono fun e w2 hx=>?_;obtain⟨O,a,rfl,z,A,G,M⟩:=hx;have z:WFs a (l1++c::d::l2):=z;rw[zV]at z;have H:WF a c:=z c (by simp);have wd:WF a d:=z d (by simp);have s1:=zpu hv h1 G M A hc H;have s2:=zpu hv h1 G M A hd wd;refine⟨O,zc a c,zc a d,?_⟩
 have u:zc a (.agg (l1++c::d::l2)) = .agg (zf (Bm val) l1++zc a c::zc a d::zf (Bm val) l2).toArray:=by
  simp only[zc];rw[yL,zf,zf,YG A hl1 hw1,YG A hl2 hw2]
 rw[u]
 have free:∀ {x:zb}{n:Nat},kp x=none->UF E.P .i64 3 w w2 n (zc a x) (XM val H' x)->∀m,UF E.P .i64 3 w w2 m (zc a x) (XM val H' x):=by
  intro x n hx h m;cases x<;>first|(cases hx;done)|exact h
 cases l:kp c with
 | none=>
  rw[l]at s1
  exact⟨_+1,_,succ_ne_self _,rfl,free l s1 _,s2⟩
 | some b=>
  cases j:kp d with
  | none=>
   rw[j]at s2
   exact⟨_,_+1,(succ_ne_self _).symm,rfl,s1,free j s2 _⟩
  | some b'=>
   rw[l]at s1;rw[j]at s2;refine⟨_,_,?_,rfl,s1,s2⟩;unfold ztr at i;rw[l,j,zd,zd,qI,zu]at i;have i:b≠b':=by simpa using i
   have at_:∀ {x:zb}{n:Nat},kp x=some n->U5 H' x=true->WF a x->∃k y,H'.blk.get n=some k/\a n=some y/\300<=n:=by
    intro x n hx g t;cases x<;>simp only[kp]at hx<;>first|(cases hx;done)|skip
    .cases hx;simp only[U5,zk,Bool.and_eq_true,zG,decide_eq_true_eq]at g;obtain⟨_,Q,J⟩:=g;obtain⟨y,o⟩:=Option.isSome_iff_exists.1 t.1
     cases I:H'.row n with
     | none=>rw[I]at J;cases J
     | some r=>
      obtain⟨k,C,_⟩:=QR I;exact⟨k,y,C,o,Q⟩
    .cases hx;simp only[U5,zk,Bool.and_eq_true,zG,decide_eq_true_eq]at g;obtain⟨q,rfl,_,_,hb⟩:=zcC g.2;obtain⟨y,o⟩:=Option.isSome_iff_exists.1 t.1;exact⟨_,y,hb,o,g.1⟩
   obtain⟨k,y,C,o,N⟩:=at_ l hc H;obtain⟨k',y',B,p,_⟩:=at_ j hd wd;intro e
   have e:y.1=y'.1:=by
    have U:a.blk b=y.1:=by simp[Inj.blk,o]
    have T:a.blk b'=y'.1:=by simp[Inj.blk,p]
    simp only[map_some,getD_some]at e;rw[<- U,<- T];exact e
   exact i (G.Ze (.inl (by omega)) C o B p e)
end
end
end Go.AEv
