/- Trails: EvSe. Conditions: each theorem's. -/
import Derived.Test.YtaffhpgaagnjfaaGreatDoorEvSd
import Derived.Orders
import Derived.Handed
import Derived.RowKit3
import Derived.OpenShut
import Derived.ChangeSame
import Derived.FnData
import Derived.Carry
import Derived.Stop.Joined
set_option linter.all false
open List Nat Option Array UInt8 Go.Region
open Go.ChangeShapes Go.WideShapes
namespace Go.AEv
variable{Da b c fuel i m n nx t:Nat}{Dc:Em}{H H' H0:Heap}{P:Ef}{T:M G}{a r v:G}{arr:Eh}{f:Eu}{handsOn:Bool}{j k:Et}{l:List G}{listed:Array Bool}{rin:List (Nat×X)}{w w0 w2:Ea}{x:Ej}
section
variable[Unk]
def JW(m i:Nat):bit m i=m.testBit i:=by
 unfold bit;show Nat.beq ((m >>> i) &&& 1) 1=_;rw[zA,Nat.testBit,Nat.and_comm];rcases mod_two_eq_zero_or_one (m >>> i) with h|h
 .rw[one_and_eq_mod_two,h];rfl
 .rw[one_and_eq_mod_two,h];rfl
def XI(m i j:Nat):bit (KC m i) j=(bit m j||decide (i=j)):=by
 rw[JW,JW];show(m ||| (1 <<< i)).testBit j=_;rw[testBit_or,one_shiftLeft,testBit_two_pow]
def pr(m n j:Nat):bit (lor m n) j=(bit m j||bit n j):=by
 rw[JW,JW,JW];exact testBit_or _ _ _
def Dv(i j:Nat):bit (Nat.shiftLeft 1 i) j=decide (i=j):=by
 rw[JW];show(1 <<< i).testBit j=_;rw[one_shiftLeft,testBit_two_pow]
def Z7(j:Nat):bit 0 j=false:=by rw[JW];exact zero_testBit j
def nu{a:Nat}(h:VR a b=true){j:Nat}(c:bit a j=true):bit b j=true:=by
 unfold VR at h;rw[zA,Ll]at h;rw[JW]at *;have h:a &&& b=a:=h;rw[<- h,testBit_and,Le]at c;exact c.2
def zbz{a:Nat}(h:∀j,bit a j=true->bit b j=true):VR a b=true:=by
 unfold VR;rw[zA,Ll];show a &&& b=a;apply eq_of_testBit_eq;intro j;rw[testBit_and];have:=h j;rw[JW,JW]at this
 cases ha:a.testBit j with
 | false=>simp
 | true=>simp[this ha]
def Rv{D:Nat}(h:Nat.beq (Nat.succ D) (Nat.shiftLeft 1 n)=true)(hi:i<n):bit D i=true:=by
 rw[zA,Ll]at h;have h:D+1=1 <<< n:=h;rw[one_shiftLeft]at h;rw[JW,show D=2 ^ n-1 by omega,testBit_two_pow_sub_one];simpa using hi
def de(es:List Edge)(j:Nat):bit (Zu es) j=true↔∃e∈es,Region.binds .any e=true/\e.on=j:=by
 induction es with
 | nil=>rw[show Zu []=0 from rfl,Z7];simp
 | cons e es b=>
  have h:Zu (e::es)=ifB (bB e) (lor (Nat.shiftLeft 1 e.on) (Zu es)) (Zu es):=rfl;rw[h,zo];by_cases hb:bB e=true
  .rw[Y hb,pr,Dv];simp only[AK,Lk,b,Lf];constructor
   .rintro(h|⟨a,h1,h2,h3⟩)
    .exact⟨e,.inl rfl,hb,h⟩
    .exact⟨a,.inr h1,h2,h3⟩
   .rintro⟨a,h1|h1,h2,h3⟩
    .subst h1;exact .inl h3
    .exact .inr ⟨a,h1,h2,h3⟩
  .rw[O hb,b];simp only[Lf];constructor
   .rintro⟨a,h1,h2⟩;exact⟨a,.inr h1,h2⟩
   .rintro⟨a,h1|h1,h2,h3⟩
    .subst h1;exact Ld h2 hb
    .exact⟨a,h1,h2,h3⟩
def KI(ops:Er)(D:Em):Prop:=∀(i:Nat) (o:Oper),ops[i]?=some o->D i->∀e∈o.after.toList,Region.binds .any e=true->D e.on
def zbL(acc:Eb)(es:List Edge)(j:Nat)(h:bit (QP acc es) j=true):∃e∈es,Region.binds .any e=true/\(e.on=j\/∃a,acc[e.on]?=some a/\bit a j=true):=by
 induction es with
 | nil=>rw[show QP acc []=0 from rfl,Z7]at h;cases h
 | cons e es c=>
  have d:QP acc (e::es)=ifB (bB e) (lor (lor (Nat.shiftLeft 1 e.on) (Z (yG e.on acc) 0 λa=>a)) (QP acc es)) (QP acc es):=rfl;rw[d,zo]at h;by_cases hb:bB e=true
  .rw[Y hb,pr,pr,Dv,AK,AK,Lk]at h;rcases h with(h|h)|h
   .exact⟨e,Oc,hb,.inl h⟩
   .rw[yY]at h
    cases ha:acc[e.on]? with
    | none=>rw[ha,zn,Z7]at h;cases h
    | some a=>rw[ha,ze]at h;exact⟨e,Oc,hb,.inr ⟨a,ha,h⟩⟩
   .obtain⟨b,h1,h2⟩:=c h;exact⟨b,by simp[h1],h2⟩
  .rw[O hb]at h;obtain⟨b,h1,h2⟩:=c h;exact⟨b,by simp[h1],h2⟩
def pX(ops:Er)(acc:Eb):Prop:=
 ∀(i a j:Nat),acc[i]?=some a->bit a j=true->∃o:Oper,ops[i]?=some o/\∀D,KI ops D->(∀e∈o.after.toList,Region.binds .any e=true->D e.on)->D j
def zbK(ops:Er):∀(l:Er) (acc:Eb),ops.drop acc.length=l->pX ops acc ->
  pX ops (Y6 l acc)/\(Y6 l acc).length=acc.length+l.length:=by
 intro l
 induction l with
 | nil=>intro acc _ h;exact⟨h,rfl⟩
 | cons o l v=>
  intro acc hd h;have y:Y6 (o::l) acc=Y6 l (zX acc [QP acc o.after.toList]):=rfl;rw[y,zZ]
  have w:ops[acc.length]?=some o:=by
   have:(ops.drop acc.length)[0]?=some o:=by rw[hd];rfl
   rwa[getElem?_drop,Nat.add_zero]at this
  have n:ops.drop (acc++[QP acc o.after.toList]).length=l:=by
   rw[Lm,<- drop_drop,hd];rfl
  have hnext:pX ops (acc++[QP acc o.after.toList]):=by
   intro i a j hi r;by_cases k:i<acc.length
   .rw[Ao k]at hi;exact h i a j hi r
   .rw[Aj I]at hi
    have m:i-acc.length=0:=by
     rcases eq_zero_or_pos (i-acc.length) with h|h
     .exact h
     .rw[Au (by simp;omega)]at hi;cases hi
    rw[m]at hi;simp only[getElem?_cons_zero,Ag]at hi;subst hi;have:i=acc.length:=by omega
    subst this;refine⟨o,w,λD t b=>?_⟩;obtain⟨e,he,hb,hc⟩:=zbL _ _ _ r;have f:=b e he hb;rcases hc with rfl|⟨z,p,c⟩
    .exact f
    .obtain⟨u,g,d⟩:=h e.on z j p c;exact d D t (t e.on u g f)
  obtain⟨g1,x⟩:=v (acc++[QP acc o.after.toList]) n hnext;exact⟨g1,by rw[x];simp only[Lm,Am,length_nil];omega⟩
def Vu(ops:Er):pX ops (Y6 ops [])/\(Y6 ops []).length=ops.length:=by
 obtain⟨h1,h2⟩:=zbK ops ops [] rfl (by intro i a j h;cases h);exact⟨h1,by simpa using h2⟩
def wI(E:Env)(ops:Er)(as:Eb):∀(l:Er) (i:Nat) (bs:Eb),l.length=bs.length->∀k:Nat,(fv E ops as l i bs)[k]? =
  (l[k]?).bind λo=>(bs[k]?).map λa=>⟨i+k,Zu o.after.toList,a,kindOf E ops as (i+k) o,o⟩:=by
 intro l
 induction l with
 | nil=>intro i bs _ k;simp[fv]
 | cons o l b=>
  intro i bs hl k
  cases bs with
  | nil=>simp at hl
  | cons a bs=>
   have c:fv E ops as (o::l) i (a::bs)=⟨i,Zu o.after.toList,a,kindOf E ops as i o,o⟩::fv E ops as l (Nat.succ i) bs:=rfl;rw[c]
   cases k with
   | zero=>simp
   | succ k=>
    rw[Ap,b (Nat.succ i) bs (by simpa using hl) k,Ap,Ap];rw[show Nat.succ i+k=i+(k+1) by omega]
def sY(E:Env)(ops:Er)(k:Nat):(qM E ops)[k]?=(ops[k]?).bind λo=>((Y6 ops [])[k]?).map λa=>⟨k,Zu o.after.toList,a,kindOf E ops (Y6 ops []) k o,o⟩:=by
 have:=wI E ops (Y6 ops []) ops 0 (Y6 ops []) (Vu ops).2.symm k;rw[Lz]at this;exact this
def jE{E:Env}{ops:Er}{m:OpM}(h:m∈qM E ops):ops[m.i]?=some m.o/\(Y6 ops [])[m.i]?=some m.anc/\m.pre=Zu m.o.after.toList/\m.kind=kindOf E ops (Y6 ops []) m.i m.o:=by
 obtain⟨k,b⟩:=List.mem_iff_getElem?.1 h;rw[sY]at b
 cases c:ops[k]? with
 | none=>rw[c]at b;cases b
 | some o=>
  rw[c,bind_some]at b
  cases ha:(Y6 ops [])[k]? with
  | none=>rw[ha]at b;cases b
  | some a=>
   rw[ha,Ac]at b;cases b;exact⟨c,ha,rfl,rfl⟩
def sX(E:Env){ops:Er}{o:Oper}(h:ops[i]?=some o):∃m∈qM E ops,m.i=i/\m.o=o:=by
 have hi:=(LL.1 h).1;obtain⟨a,ha⟩:∃a,(Y6 ops [])[i]?=some a:=⟨_,Ly (by rw[(Vu ops).2];exact hi)⟩
 refine⟨⟨i,Zu o.after.toList,a,kindOf E ops (Y6 ops []) i o,o⟩,List.mem_iff_getElem?.2 ⟨i,?_⟩,rfl,rfl⟩;rw[sY,h,ha];rfl
def To(t:Nat)(l:List Operand):F1 t l=true↔Operand.tmp t∈l:=by
 induction l with
 | nil=>simp[F1]
 | cons x l a=>
  have d:F1 t (x::l)=Z (lj x) (F1 t l) λu=>ifB (Nat.beq u t) true (F1 t l):=rfl;rw[d]
  cases x with
  | tmp u=>
   simp only[lj,ze,zo,zA,Ll,Lf,Operand.tmp.injEq];by_cases b:u=t
   .subst b;simp
   .rw[O b,a];constructor
    .exact .inr
    .rintro(h|h)
     .exact Ld h.symm b
     .exact h
  | const c=>simp[lj,a]
  | global g=>simp[lj,a]
  | func f=>simp[lj,a]
def F8{ops:Er}{w:Nat}:∀(l:Er) (as:Eb),late ops w t l as=false->l.length=as.length->∀(k:Nat) (o:Oper) (a:Nat),l[k]?=some o->as[k]?=some a->looks ops o t=true->bit a w=true:=by
 intro l
 induction l with
 | nil=>intro as _ _ k o a h;simp at h
 | cons x l e=>
  intro as h hl k o a d ha c
  cases as with
  | nil=>simp at hl
  | cons b bs=>
   have f:late ops w t (x::l) (b::bs)=ifB (looks ops x t) (ifB (bit b w) (late ops w t l bs) true) (late ops w t l bs):=rfl;rw[f]at h
   cases k with
   | zero=>
    simp only[getElem?_cons_zero,Ag]at d ha;subst d ha;rw[c,qX,zo]at h;split at h
    .assumption
    .cases h
   | succ k=>
    refine e bs ?_ (by simpa using hl) k o a (by simpa using d) (by simpa using ha) c;rw[zo]at h;split at h
    .rw[zo]at h;split at h
     .exact h
     .cases h
    .exact h
def fm:∀ {l:Er},fo t l=true->∀o∈l,o.dst≠some t:=by
 intro l
 induction l with
 | nil=>intro _ o h;cases h
 | cons x l b=>
  intro h o a;have c:fo t (x::l)=Z x.dst (fo t l) λd=>ifB (Nat.beq d t) false (fo t l):=rfl;rw[c]at h
  cases hx:x.dst with
  | none=>
   rw[hx,zn]at h;rcases Lf.1 a with rfl|a
   .rw[hx];simp
   .exact b h o a
  | some d=>
   rw[hx,ze,zo,zA]at h;split at h
   .cases h
   .rename_i hd;rcases Lf.1 a with rfl|a
    .rw[hx];simpa using hd
    .exact b h o a
def cf:∀ {l:Er},Qw l=true->∀(i j:Nat) (b a:Oper) (d:Tmp),l[i]?=some b->l[j]?=some a->b.dst=some d->a.dst=some d->i=j:=by
 intro l
 induction l with
 | nil=>intro _ i j b a d h;simp at h
 | cons x l g=>
  intro h i j b a d hi c f e;have k:Qw (x::l)=Z x.dst (Qw l) λd=>ifB (fo d l) (Qw l) false:=rfl;rw[k]at h
  have hl:Qw l=true:=by
   cases hx:x.dst with
   | none=>rw[hx,zn]at h;exact h
   | some d=>rw[hx,ze]at h;rw[zo]at h;split at h;exact h;cases h
  have hn:∀d,x.dst=some d->fo d l=true:=by
   intro d hx;rw[hx,ze,zo]at h;split at h
   .assumption
   .cases h
  cases i with
  | zero=>
   simp only[getElem?_cons_zero,Ag]at hi;subst hi
   cases j with
   | zero=>rfl
   | succ j=>exact Ld e (fm (hn d f) a (LX (by simpa using c)))
  | succ i=>
   cases j with
   | zero=>
    simp only[getElem?_cons_zero,Ag]at c;subst c
    exact Ld f (fm (hn d e) b (LX (by simpa using hi)))
   | succ j=>rw[g hl i j b a d (by simpa using hi) (by simpa using c) f e]
end
section
variable[Unk]
section
variable{E:Env}
def Uw{o : Op}{rec : Rec}{T : M G}{H H' : Heap}{v : G}(f : yO E o = 0)(h : aop o E rec T H = some (v, H')) : H' = H /\ ∀c, o = .call c -> ∃b, c.callee = .builtin b := by
  have u : ∀ {p : Prop}, p -> (∀c, o ≠ .call c) -> p /\ ∀c, o = .call c -> ∃b, c.callee = .builtin b := λhp hn => ⟨hp, λc hc => Ld hc (hn c)⟩
  cases o <;> first|(exfalso; revert f; simp[yO]; done)|skip
  case pick c a b =>
    refine u ?_ (by intro c; simp);replace h := D h;obtain⟨_, _, h⟩ := h;replace h := D h;obtain⟨q, _, h⟩ := h;cases q
    · exact(jc h).2
    · exact(jc h).2
  case convert s d x =>
    refine u ?_ (by intro c; simp);have f : ifB (toInt E d) 0 2 = 0 := f;rw[zo] at f;split at f
    case isFalse => cases f
    rename_i hd;replace h := D h;obtain⟨a, _, h⟩ := h;rw[zo] at h;split at h
    · replace h := D h
      obtain⟨l, i, h⟩ := h;replace h := D h;obtain⟨m, w, h⟩ := h
      cases j : Wx l with
      | some k =>
        rw[j, ze] at h;replace h := zh h;obtain⟨_, h⟩ := h;replace h := D h;obtain⟨r, _, h⟩ := h;cases h
        rfl
      | none =>
        exfalso;unfold toInt at hd;rw[i, ze] at hd;cases l <;> first|(cases hd; done)|(cases j; done)
    replace h := D h;obtain⟨l, i, h⟩ := h
    have hi : isInt l = true := by
      unfold toInt at hd;rw[i, ze] at hd;exact hd
    replace h := D h;obtain⟨m, w, h⟩ := h
    cases ha : asInt a with
    | some p =>
      rw[ha, ze] at h;replace h := D h;obtain⟨k, _, h⟩ := h;replace h := D h;obtain⟨n, _, h⟩ := h;cases h
      rfl
    | none =>
      rw[ha, zn, zo] at h;cases l <;> try(cases hi; done)
      split at h
      · replace h := D h
        obtain⟨s, _, h⟩ := h;have h : (bnd (none : Option TypeId) λe => xN E H e s) = some (v, H') := h;cases h
      · unfold xM at h
        cases h2 : kD m with
        | some e =>
          rw[h2, ze] at h;have h : (none : R) = some (v, H') := h
          cases h
        | none =>
          rw[h2, zn] at h
          cases h3 : xw m with
          | some t =>
            rw[h3, ze] at h;have h : (none : R) = some (v, H') := h
            cases h
          | none =>
            rw[h3, zn, zo] at h;split at h
            · have h : (none : R) = some (v, H') := h
              cases h
            · cases h
  case call c =>
    obtain⟨ce, as, z⟩ := c
    cases ce with
    | value g => exact Ld f (by simp[yO, gT])
    | invoke r n => exact Ld f (by simp[yO, gT])
    | builtin b =>
      refine⟨?_, λc hc => by cases hc; exact⟨b, rfl⟩⟩;have f : ifB (xS b) 0 2 = 0 := f;replace h := D h;obtain⟨y, _, h⟩ := h;unfold U8 at h
      cases y with
      | nil => cases h
      | cons x r =>
        rw[ZY] at h;revert h
        cases z.toList with
        | nil => intro h; cases h
        | cons t us =>
          intro h;simp only[ZY] at h
          cases b <;> first
            | (exfalso; revert f; simp[xS, zo]; done)
            | exact(jc h).2
            | (cases h; done)
  all_goals
    refine u ?_ (by intro c; simp)
    repeat (first
      | (replace h := D h
         obtain⟨_, _, h⟩ := h)
      | (replace h := zh h
         obtain⟨_, h⟩ := h)
      | (replace h := Za h
         obtain⟨_, h⟩ := h))
    cases h;rfl
def Ws{o:Op}{rec:Rec}(f:yO E o=1)(h:aop o E rec T H=some (v,H')) :
  (∃t n c,H'=⟨H.blk.set H.next (.cells t n c),H.next+1⟩)/\(v = .ptr H.next 0\/∃l c,v = .slice H.next 0 l c true)/\∀c,o≠.call c:=by
 cases o<;>first|(exfalso;revert f;simp[yO];done)|skip
 case convert s d x=>exact Ld f (by show ifB (toInt E d) 0 2≠1;rw[zo];split<;>simp)
 case call c=>exact Ld f (by show ifB (gT c) 0 2≠1;rw[zo];split<;>simp)
 case alloc t=>
  replace h:=D h;obtain⟨z,g,h⟩:=h;have h:=ks h;cases h;exact⟨⟨_,_,_,rfl⟩,.inl rfl,Oc⟩
 case box t x=>
  replace h:=D h;obtain⟨u,w,h⟩:=h;replace h:=zh h;obtain⟨_,h⟩:=h;have h:=ks h;cases h;exact⟨⟨_,_,_,rfl⟩,.inl rfl,Oc⟩
 case buildSlice t len parts=>
  replace h:=D h;obtain⟨d,hd,h⟩:=h;replace h:=D h;obtain⟨e,he,h⟩:=h;replace h:=D h;obtain⟨r,j,h⟩:=h;replace h:=D h;obtain⟨s,hs,h⟩:=h;replace h:=D h;obtain⟨z,g,h⟩:=h;replace h:=zh h;obtain⟨hb,h⟩:=h;replace h:=D h;obtain⟨l,hl,h⟩:=h;replace h:=zh h;obtain⟨_,h⟩:=h;have h:=ks h;cases h;exact⟨⟨_,_,_,rfl⟩,.inr ⟨_,_,rfl⟩,Oc⟩
 case makeSlice t l c=>
  replace h:=D h;obtain⟨d,hd,h⟩:=h;replace h:=D h;obtain⟨e,he,h⟩:=h;replace h:=D h;obtain⟨a,ha,h⟩:=h;replace h:=D h;obtain⟨b,hb,h⟩:=h;replace h:=D h;obtain⟨p,hp,h⟩:=h;replace h:=zh h;obtain⟨hi,h⟩:=h;replace h:=jq h;obtain⟨n,hn,h⟩:=h;replace h:=D h;obtain⟨q,hq,h⟩:=h;replace h:=zh h;obtain⟨y,h⟩:=h;replace h:=jq h;obtain⟨m,hm,h⟩:=h;replace h:=D h;obtain⟨i,k,h⟩:=h;replace h:=D h;obtain⟨z,g,h⟩:=h;replace h:=zh h;obtain⟨_,h⟩:=h;simp only[qg]at h;have h:=ks h;cases h;exact⟨⟨_,_,_,rfl⟩,.inr ⟨_,_,rfl⟩,Oc⟩
def lX(o:Op):yO E o=0\/yO E o=1\/yO E o=2:=by
 cases o<;>simp[yO]
 case convert s d x=>rw[zo];split<;>simp
 case call c=>rw[zo];split<;>simp
def Vi{ops:Er}{m:OpM}(hm:m∈qM E ops)(b:m.kind≠2) :
  ((m.kind=0/\yO E m.o.op=0)\/(m.kind=1/\yO E m.o.op=1/\∃d,m.o.dst=some d)) /\
  ∀d,m.o.dst=some d->∀(j:Nat) (o:Oper) (a:Nat),ops[j]?=some o->(Y6 ops [])[j]?=some a->looks ops o d=true->bit a m.i=true:=by
 obtain⟨h1,h2,h3,g⟩:=jE hm;rw[g]at b ⊢;unfold kindOf at b ⊢
 cases hd:m.o.dst with
 | none=>
  rw[hd,zn,zo,zA]at b;rw[zn,zo,zA];refine⟨.inl ?_,by intro d h;cases h⟩;split at b
  .exact Ld rfl b
  .rename_i hn;rw[O hn];rcases lX (E:=E) m.o.op with h|h|h
   .exact⟨h,h⟩
   .exact Ld (by rw[h];rfl) hn
   .exact Ld h b
 | some d=>
  rw[hd,ze,zo]at b;rw[ze,zo];split at b
  .exact Ld rfl b
  .rename_i hl;rw[O hl];refine⟨?_,?_⟩
   .rcases lX (E:=E) m.o.op with h|h|h
    .exact .inl ⟨h,h⟩
    .exact .inr ⟨h,h,d,rfl⟩
    .exact Ld h b
   .intro k e j o a f ha c;cases e;exact F8 ops (Y6 ops []) (by simpa using hl) (Vu ops).2.symm j o a f ha c
def Yc{ops:Er}{m b:OpM}(h:m∈qM E ops)(h':b∈qM E ops)(hi:m.i=b.i):m=b:=by
 obtain⟨n,l,j,g⟩:=jE h;obtain⟨d,c,f,e⟩:=jE h';obtain⟨i,p,a,k,o⟩:=m;obtain⟨u,r,v,k',t⟩:=b;simp only at *;subst hi;rw[n]at d;cases d;rw[l]at c;cases c;rw[j,f,g,e]
def Rel.nR{g:Inj}(hR:Rel P g H w)(b:X):Rel P g ⟨H.blk.set H.next b,H.next+1⟩ w where
 base:=le_succ_of_le hR.base
 blk:=λid c x h1 h2=>by
  have h1:(H.blk.set H.next b).get id=some c:=h1;have hid:=hR.bnd _ _ h2;rw[M.zN,O I]at h1;exact hR.blk id c x h1 h2
 inj:=λi j c d x y h1 h2 h3 a e=>by
  have h1:(H.blk.set H.next b).get i=some c:=h1;have h3:(H.blk.set H.next b).get j=some d:=h3;have hi:=hR.bnd _ _ h2;have f:=hR.bnd _ _ a;rw[M.zN,O I]at h1 h3;exact hR.inj _ _ _ _ _ _ h1 h2 h3 a e
 bnd:=λid x h=>lt_succ_of_lt (hR.bnd id x h)
 live:=λid c h=>by
  have h:(H.blk.set H.next b).get id=some c:=h;show id<H.next+1;rw[M.zN]at h;split at h
  .omega
  .have:=hR.live _ _ h;omega
structure Lag(E:Env)(N:Nat)(fr:Fr)(ops:Er)(Dc:Em)(Da:Nat)(T:M G)(H:Heap)(β:Inj)(w:Ea)(arr:Eh):Prop where
 rel:Rel E.P β H w
 glob:YE E β H
 size:arr.size=fr.n
 tmp:∀t,TV β (tv T t) (arr.getD t undef)\/∃i o,ops[i]?=some o/\o.dst=some t/\bit Da i=true/\¬Dc i
 sub:∀i,Dc i->bit Da i=true
 closed:KI ops Dc
 heavy:∀m∈qM E ops,m.kind=2->bit Da m.i=true->Dc m.i
 rows:∀m∈qM E ops,m.kind=1->bit Da m.i=true->¬Dc m.i->∀d,m.o.dst=some d->∀c,bid (tv T d)=some c->β c=none/\c<H.next/\N<=c
 nn:N<=H.next
 apart:∀m∈qM E ops,∀m'∈qM E ops,m.kind=1->m'.kind=1->bit Da m.i=true->bit Da m'.i=true->¬Dc m.i->¬Dc m'.i->m.i≠m'.i ->
  ∀d d',m.o.dst=some d->m'.o.dst=some d'->∀c,bid (tv T d)=some c->bid (tv T d')≠some c
 lt:∀(i:Nat) (o:Oper) (d:Tmp),ops[i]?=some o->bit Da i=true->o.dst=some d->d<fr.n
 order:∃L:List Nat,(∀i,bit Da i=true↔i∈L)/\∀L1 i L2,L=L1++i::L2->∃o,ops[i]?=some o/\∀e∈o.after.toList,Region.binds .any e=true->e.on∈L1
def lW{ops:Er}{o:Oper}(f:ops[i]?=some o)(hp:VR (Zu o.after.toList) n=true)
  (h:∃L:List Nat,(∀i,bit n i=true↔i∈L)/\∀b i d,L=b++i::d->∃o,ops[i]?=some o/\∀e∈o.after.toList,Region.binds .any e=true->e.on∈b) :
  ∃L:List Nat,(∀j,bit (KC n i) j=true↔j∈L)/\∀b i d,L=b++i::d->∃o,ops[i]?=some o/\∀e∈o.after.toList,Region.binds .any e=true->e.on∈b:=by
 obtain⟨L,h1,h2⟩:=h;refine⟨L++[i],λj=>?_,λb j d e=>?_⟩
 .rw[XI,AK,Lk,h1,LJ,Lu];constructor
  .rintro(h|h)
   .exact .inl h
   .exact .inr h.symm
  .rintro(h|h)
   .exact .inl h
   .exact .inr h.symm
 .rcases List.append_eq_append_iff.1 e with⟨q,c,a⟩|⟨q,c,a⟩
  ·
   cases q with
   | nil=>
    simp at c a;obtain⟨a,_⟩:=a;subst a;subst c
    refine⟨o,f,λe he hb=>(h1 _).1 (nu hp ((de _ _).2 ⟨e,he,hb,rfl⟩))⟩
   | cons x q=>simp at a
  .cases q with
   | nil=>
    simp at c a;obtain⟨a,_⟩:=a;subst a;subst c
    refine⟨o,f,λe he hb=>(h1 _).1 (nu hp ((de _ _).2 ⟨e,he,hb,rfl⟩))⟩
   | cons x q=>
    simp only[cons_append,List.cons.injEq]at a;obtain⟨a,_⟩:=a;subst a;exact h2 b _ q c
end
end
section
variable[Unk]
section
variable{E:Env}
def Ky{rec:Rec}{ops:Er}{o:Oper}{K:pR}{r:jr}(h:cY E rec n ops o K T H=r)(b:r≠.fail) :
  ∃v H',K (match o.dst with|none=>T|some d=>T.set d v) H'=r/\(∀d,o.dst=some d->d<n) /\
   ((ZN ops T o=true/\aop o.op E rec T H=some (v,H'))\/(ZN ops T o=false/\v=jo/\H'=H)):=by
 have run:∀(h:m8 E rec n o T H K=r),∃v H',K (match o.dst with|none=>T|some d=>T.set d v) H'=r/\(∀d,o.dst=some d->d<n)/\aop o.op E rec T H=some (v,H'):=by
  intro h;unfold m8 at h
  cases hx:aop o.op E rec T H with
  | none=>rw[hx]at h;exact Ld h.symm b
  | some p=>
   rw[hx,ze]at h;rcases pE h b with⟨hd,h1⟩|⟨d,hd,a,h1⟩
   .exact⟨p.1,p.2,by rw[hd];exact h1,λd h=>(by rw[hd]at h;cases h),rfl⟩
   .exact⟨p.1,p.2,by rw[hd];exact h1,λj h=>(by rw[hd]at h;cases h;exact a),rfl⟩
 unfold cY at h;unfold ZN
 cases i:o.guard with
 | none=>
  rw[i]at h;obtain⟨v,H',f,e,c⟩:=run h
  exact⟨v,H',f,e,.inl ⟨rfl,c⟩⟩
 | some g=>
  rw[i,ze,zo]at h;split at h
  .exact Ld h.symm b
  rw[zo]at h;split at h
  .rename_i hw;obtain⟨v,H',f,e,c⟩:=run h;exact⟨v,H',f,e,.inl ⟨hw,c⟩⟩
  .rename_i hw;rcases pE h b with⟨hd,h1⟩|⟨d,hd,a,h1⟩
   .exact⟨jo,H,by rw[hd];exact h1,λd h=>(by rw[hd]at h;cases h),.inr ⟨by simpa using hw,rfl,rfl⟩⟩
   .exact⟨jo,H,by rw[hd];exact h1,λj h=>(by rw[hd]at h;cases h;exact a),.inr ⟨by simpa using hw,rfl,rfl⟩⟩
def Bf{rec:Rec}{ops:Er}{o:Oper}{K:pR}{r:jr}(h:cY E rec n ops o K T H=r)(a:r≠.fail):∀g,o.guard=some g->np ops T g=false:=by
 intro g b;unfold cY at h;rw[b,ze,zo]at h;split at h
 .exact Ld h.symm a
 .rename_i hs;simpa using hs
def uQ{ops:Er}{row:Bool}{o:Oper}(h:again E ops T H row o=true):∀g,o.guard=some g->np ops T g=false:=by
 intro g a;unfold again at h;rw[a,ze,zo]at h;split at h
 .cases h
 .rename_i hs;simpa using hs
noncomputable def eE(T:M G)(o:Oper)(v:G):M G:=match o.dst with|none=>T|some d=>T.set d v
def QH{o:Oper}(h:o.dst≠some t):tv (eE T o v) t=tv T t:=by
 unfold eE
 cases hd:o.dst with
 | none=>rfl
 | some d=>rw[vh,O (λe=>h (by rw[hd,e]))]
def Jf{o:Oper}{d:Nat}(h:o.dst=some d):tv (eE T o v) d=v:=by
 unfold eE;rw[h,vh,Y rfl]
def Lag.zcf{N:Nat}{fr:Fr}{ops:Er}(hone:Qw ops=true){k:Nat}{g:Inj}(f:Lag E N fr ops Dc k T H g w arr)
  {m:OpM} (hm:m∈qM E ops) (hk:m.kind≠2) (hnd:bit k m.i=false) (hpre:VR m.pre k=true) {rec:Rec}{v:G}{H':Heap}
  (hlt:∀d,m.o.dst=some d->d<fr.n) (hx:(aop m.o.op E rec T H=some (v,H'))\/(v=jo/\H'=H)) :
  Lag E N fr ops Dc (KC k m.i) (eE T m.o v) H' g w arr:=by
 obtain⟨g1,g2,g3,g4⟩:=jE hm;obtain⟨x,_⟩:=Vi hm hk;have hnc:¬Dc m.i:=λh=>by rw[f.sub _ h]at hnd;cases hnd
 have old:∀ {i o t},ops[i]?=some o->o.dst=some t->i≠m.i->tv (eE T m.o v) t=tv T t:=by
  intro i o t hi hd j;apply QH;intro hd';exact j (cf hone i m.i o m.o t hi g1 hd hd')
 have a:∀i,bit (KC k m.i) i=true->i≠m.i->bit k i=true:=by
  intro i hi j;rw[XI,AK,Lk]at hi;rcases hi with hi|hi
  .exact hi
  .exact Ld hi.symm j
 have hadd:∀i,bit k i=true->bit (KC k m.i) i=true:=λi hi=>by rw[XI,hi];rfl
 have hself:bit (KC k m.i) m.i=true:=by rw[XI];simp
 have hH:H'=H\/∃b,H'=⟨H.blk.set H.next b,H.next+1⟩:=by
  rcases hx with hx|⟨_,rfl⟩
  .rcases x with⟨_,h0⟩|⟨_,h1,_⟩
   .exact .inl (Uw h0 hx).1
   .obtain⟨⟨t,n,c,e⟩,_⟩:=Ws h1 hx;exact .inr ⟨_,e⟩
  .exact .inl rfl
 have hrel:Rel E.P g H' w:=by
  rcases hH with rfl|⟨b,rfl⟩
  .exact f.rel
  .exact f.rel.nR b
 have hnext:H.next<=H'.next:=by
  rcases hH with rfl|⟨b,rfl⟩
  .exact Lh _
  .exact le_succ _
 have Q:m.kind=1->∀c,bid v=some c->c=H.next/\H'.next=H.next+1:=by
  intro h1 c hc;rcases x with⟨h0,_⟩|⟨_,hop,_⟩
  .rw[h0]at h1;cases h1
  .rcases hx with hx|⟨rfl,_⟩
   .obtain⟨⟨t,n,cc,e⟩,hv,_⟩:=Ws hop hx;rcases hv with rfl|⟨l,cp,rfl⟩
    .cases hc;exact⟨rfl,by rw[e]⟩
    .cases hc;exact⟨rfl,by rw[e]⟩
   .cases hc
 have htabs:∀p∈E.tabs,p.1<100/\H'.blk.get p.1=some p.2:=by
  intro p hp;obtain⟨t1,t2⟩:=f.glob.tabs p hp;refine⟨t1,?_⟩;have hb:=f.rel.base;rcases hH with rfl|⟨b,rfl⟩
  .exact t2
  .show(H.blk.set H.next b).get p.1=_;rw[M.zN,O I];exact t2
 refine⟨hrel,⟨f.glob.at_,Lj f.glob.next hnext,f.glob.facts,htabs,f.glob.alts⟩,f.size,?_,λi hi=>hadd i (f.sub i hi),f.closed,?_,?_,Lj f.nn hnext,?_,?_,?_⟩
 .intro t;by_cases hd:m.o.dst=some t
  .exact .inr ⟨m.i,m.o,g1,hd,hself,hnc⟩
  .rw[QH hd];rcases f.tmp t with h|⟨i,o,h1,h2,h3,h4⟩
   .exact .inl h
   .exact .inr ⟨i,o,h1,h2,hadd i h3,h4⟩
 .intro m' r y hb;by_cases hi:m'.i=m.i
  .obtain rfl:=Yc r hm hi;exact Ld y hk
  .exact f.heavy m' r y (a _ hb hi)
 .intro m' r y hb hn d hd c hc;by_cases hi:m'.i=m.i
  .obtain rfl:=Yc r hm hi;rw[Jf hd]at hc;obtain⟨rfl,e⟩:=Q y c hc;exact⟨f.rel.fresh (Lh _),I,f.nn⟩
  .obtain⟨q1,_⟩:=jE r;rw[old q1 hd hi]at hc;obtain⟨c1,c2,c3⟩:=f.rows m' r y (a _ hb hi) hn d hd c hc;exact⟨c1,I,c3⟩
 .intro m1 hm1 m2 hm2 k1 k2 b1 b2 n1 n2 j d1 d2 e1 e2 c hc u;obtain⟨q1,_⟩:=jE hm1;obtain⟨q2,_⟩:=jE hm2;by_cases z:m1.i=m.i
  .obtain rfl:=Yc hm1 hm z;rw[Jf e1]at hc;rw[old q2 e2 (λh=>j h.symm)]at u;obtain⟨rfl,_⟩:=Q k1 c hc;have:=(f.rows m2 hm2 k2 (a _ b2 (λh=>j h.symm)) n2 d2 e2 _ u).2.1;omega
  .by_cases hi2:m2.i=m.i
   .obtain rfl:=Yc hm2 hm hi2;rw[Jf e2]at u;rw[old q1 e1 z]at hc;obtain⟨rfl,_⟩:=Q k2 c u;have:=(f.rows m1 hm1 k1 (a _ b1 z) n1 d1 e1 _ hc).2.1;omega
   .rw[old q1 e1 z]at hc;rw[old q2 e2 hi2]at u;exact f.apart m1 hm1 m2 hm2 k1 k2 (a _ b1 z) (a _ b2 hi2) n1 n2 j d1 d2 e1 e2 c hc u
 .intro i o d hi hb hd;by_cases he:i=m.i
  .subst he;rw[g1]at hi;cases hi;exact hlt d hd
  .exact f.lt i o d hi (a _ hb he) hd
 .exact lW g1 (by rw[<- g3];exact hpre) f.order
def Lag.looks{N:Nat}{fr:Fr}{ops:Er}{r:Em}{g:Inj}(p:Lag E N fr ops r n T H g w arr)
  {j:Nat}{o:Oper} (ho:ops[j]?=some o) (hpre:∀e∈o.after.toList,Region.binds .any e=true->r e.on) {t:Nat} (hlk:looks ops o t=true) :
  TV g (tv T t) (arr.getD t undef):=by
 rcases p.tmp t with h|⟨i,x,h1,h2,h3,u⟩
 .exact h
 .exfalso;obtain⟨m,hm,c,k⟩:=sX E h1;have l:m.kind≠2:=λl=>u (by rw[<- c];exact p.heavy m hm l (by rw[c];exact h3));have v:=(LL.1 ho).1;obtain⟨a,ha⟩:∃a,(Y6 ops [])[j]?=some a:=⟨_,Ly (by rw[(Vu ops).2];exact v)⟩
  have b:=(Vi hm l).2 t (by rw[k];exact h2) j o a ho ha hlk;rw[c]at b;obtain⟨y,d,f⟩:=(Vu ops).1 j a i ha b;rw[ho]at d;cases d;exact u (f r p.closed hpre)
def Lag.operands{N:Nat}{fr:Fr}{ops:Er}{i:Em}{b:Inj}{a:Act}(h:Lag E N fr ops i n T H b w a.tmps)
  {j:Nat}{o:Oper} (ho:ops[j]?=some o) (hpre:∀e∈o.after.toList,Region.binds .any e=true->i e.on):WS T b a.eval o.op.operands:=by
 intro x hx v hv
 cases x with
 | tmp t=>
  obtain⟨e,hn⟩:=gm (t:=t) hv
  have d:AEv.looks ops o t=true:=by
   unfold AEv.looks;rw[zo,Y];rw[To];simpa using hx
  obtain⟨h1,h2⟩:=(h.looks ho hpre d).known (by rw[e];exact hn);rw[e]at h1 h2
  exact⟨h2,h1⟩
 | const c=>exact⟨((YN b 5000).1 c v hv).1.symm,((YN b 5000).1 c v hv).2⟩
 | global g=>
  have hv:ifB (Nat.blt g 60) (some (G.ptr g 0)) none=some v:=hv;replace hv:=zh hv;obtain⟨h1,hv⟩:=hv;rw[zW,Lk]at h1;cases hv;have hb:=h.glob.at_ g I;rw[Unk.glob g h1]at hb;refine⟨?_,by simp[WF,hb]⟩
  simp[Act.eval,J,Inj.addr,Inj.blk,Inj.sh,hb]
 | func f=>cases hv;exact⟨rfl,trivial,trivial⟩
def uF{g:Inj}(d:Tmp)(want:Bool)(ha:arr.getD d undef=J g (tv T d))(hs:Z (T.get d) false Yd=false) :
  UU T d want=((match arr[d]? with|some (.bool b)=>some b|_=>none)==some want):=by
 rw[getD_eq_getD_getElem?]at ha;unfold UU
 cases a:T.get d with
 | none=>
  rw[show tv T d=jo by unfold tv;rw[a];rfl]at ha;rw[zn]
  cases he:arr[d]? with
  | none=>rfl
  | some x=>
   rw[he]at ha;have:x=undef:=by simpa using ha
   subst this
   rfl
 | some v=>
  rw[show tv T d=v by unfold tv;rw[a];rfl]at ha;rw[ze]
  cases hb:asBool v with
  | some b=>
   obtain rfl:=QF hb;rw[ze]
   have:arr[d]?=some (.bool b):=by
    cases he:arr[d]? with
    | none=>rw[he]at ha;simp[J,undef]at ha
    | some x=>rw[he]at ha;simp[J]at ha;rw[ha]
   rw[this,XJ]
   cases b<;>cases want<;>rfl
  | none=>
   rw[zn]
   cases he:arr[d]? with
   | none=>rfl
   | some x=>
    rw[he]at ha;have ha:x=J g v:=by simpa using ha
    subst ha;cases v<;>first|rfl|(cases hb;done)|(rename_i i;rw[a,ze]at hs;cases hs;done)
def Lag.wanted{N:Nat}{fr:Fr}{ops:Ep}{f:Em}{h:Inj}(k:Lag E N fr ops.toList f n T H h w arr)
  {j:Nat}{o:Oper} (ho:ops.toList[j]?=some o) (hpre:∀e∈o.after.toList,Region.binds .any e=true->f e.on) (hs:∀g,o.guard=some g->np ops.toList T g=false):Region.wanted o (yielded ops arr)=ZN ops.toList T o:=by
 unfold Region.wanted ZN
 cases c:o.guard with
 | none=>rfl
 | some g=>
  obtain⟨i,want⟩:=g;simp only[KM,yY];unfold yielded;rw[LV]
  cases b:ops[i]? with
  | none=>rfl
  | some q=>
   simp only[bind_some,ze]
   cases hq:q.dst with
   | none=>rfl
   | some d=>
    simp only[bind_some,ze]
    have a:AEv.looks ops.toList o d=true:=by
     unfold AEv.looks;rw[zo];split
     .rfl
     .rw[c,ze,yY,LV,b,ze,hq,ze,zA];simp
    have h1:=hs _ c;simp only[np,yY]at h1;rw[LV,b,ze,hq,ze]at h1;obtain⟨hn,h1⟩:=cG h1;exact(uF d want ((k.looks ho hpre a).known hn).2 h1).symm
end
end
section
variable[Unk]
def zO.back{g β1:Inj}(l:g.le β1){b:X}{y:Ej}{u:Ea}(h:zO P g b y w)(h1:zO P β1 b y u):zO P g b y u:=by
 cases b with
 | cells t n c=>
  obtain⟨arr,fz,_,r⟩:=h;obtain⟨f,m,z,k⟩:=h1;refine⟨f,m,z,k.size,λi v hv=>?_,k.thaw,k.al⟩;obtain⟨a1,_⟩:=r.cell i v hv;obtain⟨_,b2⟩:=k.cell i v hv
  exact⟨a1,by rw[b2,(WF.mono l v a1).2]⟩
 | map es clock=>
  obtain⟨arr,_,_,r⟩:=h;obtain⟨f,z,q1,_⟩:=h1;refine⟨f,z,?_,r⟩;rw[q1]
  exact Ab λe he=>gp l e (r e he).1 (r e he).2.1
 | siter s p=>exact h1
 | text t v=>
  obtain⟨arr,fz,_,r⟩:=h;obtain⟨f,m,z,k⟩:=h1;have e:=(WF.mono l v r.wf).2
  exact⟨f,m,z,r.wf,by rw[<- e];exact k.is,k.size,by rw[<- e];exact k.cell,k.thaw,k.one⟩
 | ints t v=>
  obtain⟨arr,fz,_,r⟩:=h;obtain⟨f,m,z,k⟩:=h1;have e:=(WF.mono l v r.wf).2
  exact⟨f,m,z,r.wf,by rw[<- e];exact k.is,k.size,by rw[<- e];exact k.cell,k.thaw,k.one⟩
 | view c=>
  obtain⟨arr,t,fz,_,r⟩:=h;obtain⟨f,t1,m,z,k⟩:=h1
  exact⟨f,t1,m,z,λi v hv=>⟨(r i v hv).1,by rw[<- (WF.mono l v (r i v hv).1).2];exact(k i v hv).2⟩⟩
 | pack t n N=>
  obtain⟨f,m,z,k⟩:=h1
  exact⟨f,m,z,k.bytes⟩
 | loop st Q fn n T ps as bo=>
  obtain⟨tmps,d,_,r⟩:=h;obtain⟨H,d1,z,k⟩:=h1;refine⟨H,d1,z,k.size,λi=>?_⟩;rcases r.tmp i with h|⟨h,_⟩
  .exact .inl h
  .rcases k.tmp i with h2|⟨_,h2⟩
   .exact .inl h2
   .exact .inr ⟨h,by rw[h2,(WF.mono l _ h).2]⟩
def I5{r q:Row}(h:I7 r q=true):r=q:=by
 unfold I7 at h;simp only[zl,Le,zA,Ll]at h;obtain⟨t,n,c⟩:=r;obtain⟨b,f,g⟩:=q;simp only at h;rw[h.1,h.2.1,ng _ _ h.2.2]
section
variable{E:Env}(hE:yF E)
include hE
theorem FR{g:Inj}(h:WFs g l):∀i v,(M.ofList l).get i=some v->WF g v:=by
 have _:=hE;intro i v hv;rw[M.qy]at hv;exact(qb _ _).1 h v (LX hv)
theorem NG{o:Op}{rec:Rec}(y:yO E o=1)(h:aop o E rec T H=some (v,H')){β:Inj}{w:Ea}{ρ:Operand->Value}(P:WS T β ρ o.operands) :
  ∀q,H'.row H.next=some q->∀i u,q.c.get i=some u->WF β u:=by
 have fin:∀(t:Eg) (l:List G),WFs β l->∀q,(Heap.new H t l).row H.next=some q->∀i u,q.c.get i=some u->WF β u:=by
  intro t l hl q hq i u k;obtain⟨b0,hb,ha⟩:=JG hq;have hb:(H.blk.set H.next (.cells t (je l 0) (M.ofList l))).get H.next=some b0:=hb;rw[M.zN,Y rfl]at hb;cases hb;cases ha;exact FR hE hl i u k
 cases o<;>first|(exfalso;revert y;simp[yO];done)|skip
 case convert s d x=>exact Ld y (by show ifB (toInt E d) 0 2≠1;rw[zo];split<;>simp)
 case call c=>exact Ld y (by show ifB (gT c) 0 2≠1;rw[zo];split<;>simp)
 case alloc t=>
  replace h:=D h;obtain⟨z,f,h⟩:=h;have h:=ks h;cases h;exact fin t _ (j9 (yi hE f β w).2)
 case box t x=>
  replace h:=D h;obtain⟨u,k,h⟩:=h;replace h:=zh h;obtain⟨_,h⟩:=h;have h:=ks h;cases h;exact fin t _ (j9 (P x (by simp[Op.operands]) _ k).2)
 case buildSlice t len parts=>
  replace h:=D h;obtain⟨d,hd,h⟩:=h;replace h:=D h;obtain⟨e,he,h⟩:=h;replace h:=D h;obtain⟨g,r,h⟩:=h;replace h:=D h;obtain⟨s,hs,h⟩:=h;replace h:=D h;obtain⟨z,f,h⟩:=h;replace h:=zh h;obtain⟨hb,h⟩:=h;rw[zl,Le,zK,Lk,zA,Ll,jV]at hb;replace h:=D h;obtain⟨l,hl,h⟩:=h;replace h:=zh h;obtain⟨_,h⟩:=h;have h:=ks h;cases h;obtain⟨g1,g2⟩:=Kj (ρ:=ρ) parts.toList g r (λx hx v hv=>P x (by simpa[Op.operands] using hx) v hv);have hw:=aD (j9 (yi hE f β w).2) len;have hl:mH (Kl s) (len*s) g (Jg (zU z) len)=some l:=hl;rw[<- Xl (zU z) s hb.2 len]at hl;exact fin e l (Xv (β:=β) (Kl s) g _ l hl g2 hw).2.1
 case makeSlice t l c=>
  replace h:=D h;obtain⟨d,hd,h⟩:=h;replace h:=D h;obtain⟨e,he,h⟩:=h;replace h:=D h;obtain⟨a,ha,h⟩:=h;replace h:=D h;obtain⟨b,hb,h⟩:=h;replace h:=D h;obtain⟨p,hp,h⟩:=h;replace h:=zh h;obtain⟨hi,h⟩:=h;replace h:=jq h;obtain⟨n,hn,h⟩:=h;replace h:=D h;obtain⟨q,hq,h⟩:=h;replace h:=zh h;obtain⟨hj,h⟩:=h;replace h:=jq h;obtain⟨m,hm,h⟩:=h;replace h:=D h;obtain⟨i,Q,h⟩:=h;replace h:=D h;obtain⟨z,f,h⟩:=h;replace h:=zh h;obtain⟨_,h⟩:=h;simp only[qg]at h;have h:=ks h;cases h;exact fin e _ (aD (j9 (yi hE f β w).2) m)
omit hE in
theorem Dw{a:Act}{o:Oper}{x:Ei}(h:o.dst≠some t):(a.put o.dst x).tmps.getD t undef=a.tmps.getD t undef:=by
 cases hd:o.dst with
 | none=>rfl
 | some d=>
  have:d≠t:=λe=>h (by rw[hd,e]);simp[Act.put,getD_eq_getD_getElem?,this]
omit hE in
theorem U4{a:Act}{o:Oper}{x:Ei}{d:Nat}(h:o.dst=some d)(hd:d<a.tmps.size):(a.put o.dst x).tmps.getD d undef=x:=by
 simp[h,Act.put,getD_eq_getD_getElem?,hd]
omit hE in
theorem rX(a:Act)(dst:Option Tmp)(x:Ei):(a.put dst x).tmps.size=a.tmps.size:=by cases dst<;>simp[Act.put]
omit hE in
theorem gH{ops:Er}(h:KI ops Dc){o:Oper}(ho:ops[i]?=some o)(hpre:∀e∈o.after.toList,Region.binds .any e=true->Dc e.on):KI ops λj=>Dc j\/j=i:=by
 rintro j o' hj (hd|rfl) e he hb
 .exact .inl (h j o' hj hd e he hb)
 .rw[ho]at hj;cases hj;exact .inl (hpre e he hb)
theorem Lag.same{N:Nat}{fr:Fr}{ops:Er}(r:Qw ops=true){g β1:Inj}{u:Ea}{a:Act}(b:Lag E N fr ops Dc n T H g w a.tmps)
  {m:OpM} (hm:m∈qM E ops) (hb:bit n m.i=true) (hpre:∀e∈m.o.after.toList,Region.binds .any e=true->Dc e.on) {v:G} (hv:WF β1 v) (hR:Rel E.P β1 H u) (hle:g.le β1)
  (hG:YE E β1 H) (hT:∀d,m.o.dst=some d->tv T d=v) (hrow:∀f∈qM E ops,f.kind=1->bit n f.i=true->¬(Dc f.i\/f.i=m.i)->∀d,f.o.dst=some d->∀c,bid (tv T d)=some c->β1 c=none) :
  Lag E N fr ops (λj=>Dc j\/j=m.i) n T H β1 u (a.put m.o.dst (J β1 v)).tmps:=by
 have _:=r;have _:=hE;obtain⟨g1,_⟩:=jE hm;refine⟨hR,hG,by rw[rX];exact b.size,?_,?_,gH b.closed g1 hpre,?_,?_,b.nn,?_,b.lt,b.order⟩
 .intro t;by_cases hd:m.o.dst=some t
  .left;rw[hT t hd];refine .inr ⟨hv,U4 hd ?_⟩;rw[b.size];exact b.lt m.i m.o t g1 hb hd
  .rw[Dw hd];rcases b.tmp t with h|⟨i,o,h1,h2,h3,Q⟩
   .exact .inl (h.mono hle)
   .refine .inr ⟨i,o,h1,h2,h3,?_⟩;rintro(h|rfl)
    .exact Q h
    .rw[g1]at h1;cases h1;exact hd h2
 .rintro i (h|rfl)
  .exact b.sub i h
  .exact hb
 .intro f k l p;exact .inl (b.heavy f k l p)
 .intro f k l p hn d hd c hc;obtain⟨_,c2,c3⟩:=b.rows f k l p (λh=>hn (.inl h)) d hd c hc;exact⟨hrow f k l p hn d hd c hc,c2,c3⟩
 .intro m1 y m2 hm2 z k2 b1 b2 n1 n2;exact b.apart m1 y m2 hm2 z k2 b1 b2 (λh=>n1 (.inl h)) (λh=>n2 (.inl h))
theorem vJ{g β1:Inj}{w1:Ea}(hR:Rel E.P g H w){b:X}(p:Rel E.P β1 ⟨H.blk.set H.next b,H.next+1⟩ w1)(hX:Ext g H w β1 ⟨H.blk.set H.next b,H.next+1⟩ w1)
  {x:Ej} (hx:β1 H.next=some x) {q:Row} (hbq:b = .cells q.t q.n q.c) (hq:∀i u,q.c.get i=some u->WF g u) {c:Nat} (hc:g c=none) (hcl:c<H.next) (hrow:H.row c=some q) :
  Rel E.P (g.put c x) H w1/\w.heap.size<=x.1:=by
 have _:=hE;have k:g.le β1:=hX.le hR.bnd;have m:g.le (g.put c x):=Inj.yL hc;have hself:(H.blk.set H.next b).get H.next=some b:=by rw[M.zN,Y rfl]
 have hold:∀ {id l},H.blk.get id=some l->(H.blk.set H.next b).get id=some l:=by
  intro id l h;have:=hR.live _ _ h;rw[M.zN,O I];exact h
 have f:∀ {id l y},H.blk.get id=some l->g id=some y->y.1≠x.1:=by
  intro id l y h1 h2 e;have:=p.QV (.inr hR.base) (hold h1) (k _ _ h2) hself hx e;have:=hR.live _ _ h1;omega
 have v:w.heap.size<=x.1:=by
  rcases hX.new H.next x (Lh _) hx with h|⟨i,l,y,_,h1,h2,h3⟩
  .exact h
  .exact Ld h3 (f h1 h2)
 refine⟨⟨hR.base,?_,?_,?_,hR.live⟩,v⟩
 .intro id l y h1 h2;by_cases hid:id=c
  .subst hid;rw[Inj.zS]at h2;cases h2;obtain⟨b0,Q,ha⟩:=JG hrow;rw[h1]at Q;cases Q;refine(bE ha).2 ?_;obtain⟨arr,fz,e1,T⟩:=p.blk H.next b x hself hx |> λh=>by rw[hbq]at h;exact h
   refine⟨arr,fz,e1,T.size,λi u hu=>?_,T.thaw,T.al⟩;obtain⟨_,f2⟩:=T.cell i u hu;have hw:=hq i u hu;obtain⟨k1,k2⟩:=WF.mono m u hw;exact⟨k1,by rw[f2,(WF.mono k u hw).2,k2]⟩
  .rw[Inj.qw _ _ hid]at h2;exact((hR.blk id l y h1 h2).back k (p.blk id l y (hold h1) (k _ _ h2))).mono m
 .intro i j bi bj y z h1 h2 h3 r e;by_cases hi:i=c
  .by_cases hj:j=c
   .exact .inl (by rw[hi,hj])
   .subst hi;rw[Inj.zS]at h2;cases h2;rw[Inj.qw _ _ hj]at r;exact Ld e.symm (f h3 r)
  .rw[Inj.qw _ _ hi]at h2;by_cases hj:j=c
   .subst hj;rw[Inj.zS]at r;cases r;exact Ld e (f h1 h2)
   .rw[Inj.qw _ _ hj]at r;exact hR.inj i j bi bj y z h1 h2 h3 r e
 .intro id y h;by_cases hid:id=c
  .omega
  .rw[Inj.qw _ _ hid]at h;exact hR.bnd id y h
theorem Lag.step{N : Nat}{fr : Fr}{ops : Array Oper}(hone : Qw ops.toList = true){Dc : Nat -> Prop}{Da : Nat}{T : M G}{H : Heap}{β : Inj}{w : World}{a : Act}(f : Lag E N fr ops.toList Dc Da T H β w a.tmps)
    {m : OpM} (hm : m ∈ qM E ops.toList) (hk : m.kind ≠ 2) (hb : bit Da m.i = true) (hn : ¬Dc m.i) (hpre : ∀e ∈ m.o.after.toList, Region.binds .any e = true -> Dc e.on)
    (hag : again E ops.toList T H (isK 1 m) m.o = true) {β0 : Inj} {H0 : Heap} {w0 : World} (hX0 : Ext β0 H0 w0 β H w) (hN : H0.next = N) (b : Frame) (rest : List Nat) (k : List Item) (cs : List Frame) :
    ∃β' w' a', Lag E N fr ops.toList (λj => Dc j \/ j = m.i) Da T H β' w' a'.tmps /\ Ext β0 H0 w0 β' H w' /\ a'.defers = a.defers /\
      Steps E.P (lone (b.atR a (.inRegion ops (m.i :: rest) :: k)) cs w) (lone (b.atR a' (.inRegion ops rest :: k)) cs w') := by
  obtain⟨g1, _⟩ := jE hm;have ho : ops[m.i]?=some m.o := by rw[<- LV]; exact g1
  have hsg := uQ hag;have hw := f.wanted g1 hpre hsg;obtain⟨hkind, _⟩ := Vi hm hk
  have unw : ZN ops.toList T m.o = false -> sameAs T m.o.dst jo = true -> ∃β' w' a', Lag E N fr ops.toList (λj => Dc j \/ j = m.i) Da T H β' w' a'.tmps /\ Ext β0 H0 w0 β' H w' /\ a'.defers = a.defers /\
      Steps E.P (lone (b.atR a (.inRegion ops (m.i :: rest) :: k)) cs w) (lone (b.atR a' (.inRegion ops rest :: k)) cs w') := by
    intro hf hs;have r := stepR_op_skip (P := E.P) (b := b) (a := a) (k := k) (cs := cs) (w := w) (ops := ops) (i := m.i) (rest := rest) (by rw[ho]; simp only[Ac, LW]; rw[hw]; exact hf);rw[ho] at r;simp only[bind_some] at r
    have := f.same hE hone hm hb hpre (v := jo) Oc f.rel (Inj.le.refl _) f.glob (by
      intro d hd;unfold sameAs at hs;rw[hd, ze] at hs;unfold tv
      cases ht : T.get d with
      | none => rfl
      | some u => rw[ht, ze] at hs; rw[zV _ _ hs]; rfl) (λm' Q hk' hb' z d hd c hc => (f.rows m' Q hk' hb' (λh => z (.inl h)) d hd c hc).1)
    rw[XF] at this;exact⟨β, w, _, this, hX0, put_defers _ _ _, .one r⟩
  have wan : ZN ops.toList T m.o = true -> pJ E T H (isK 1 m) m.o = true -> ∃β' w' a', Lag E N fr ops.toList (λj => Dc j \/ j = m.i) Da T H β' w' a'.tmps /\ Ext β0 H0 w0 β' H w' /\ a'.defers = a.defers /\
      Steps E.P (lone (b.atR a (.inRegion ops (m.i :: rest) :: k)) cs w) (lone (b.atR a' (.inRegion ops rest :: k)) cs w') := by
    intro hf hs;unfold pJ at hs
    cases hx : aop m.o.op E Z1 T H with
    | none => rw[hx] at hs; cases hs
    | some p =>
      obtain⟨v, H1⟩ := p;rw[hx, ze] at hs;have hops := f.operands g1 hpre
      have hcall : ∀c, m.o.op = .call c -> ∃bb, c.callee = .builtin bb := by
        rcases hkind with⟨_, h0⟩|⟨_, h1, _⟩
        · exact(Uw h0 hx).2
        · exact λc hc => Ld hc ((Ws h1 hx).2.2 c)
      obtain⟨x, w1, ⟨β1, rfl, r1, r2, r3⟩, hst⟩ := (m7 hE f.rel f.glob.facts hx hops hcall).res.steps (b := b) (rest := rest) (k := k) (cs := cs) ho (hw.trans hf) (bG hx);have hle1 := r3.le f.rel.bnd;rcases hkind with⟨hk0, h0⟩|⟨hk1, h1, d, hd⟩
      ·
        obtain⟨rfl, _⟩ := Uw h0 hx;have hz : isK 1 m = false := by unfold isK; rw[hk0]; rfl
        rw[hz, yy] at hs
        have := f.same hE hone hm hb hpre r1 r2 hle1 (f.glob.ext f.rel.bnd r3) (by
          intro d hd;unfold sameAs at hs;rw[hd, ze] at hs;unfold tv
          cases ht : T.get d with
          | none => rw[ht] at hs; cases hs
          | some u => rw[ht, ze] at hs; rw[zV _ _ hs]; rfl) (λm' Q hk' hb' z d hd c hc => by
            obtain⟨c1, c2, _⟩ := f.rows m' Q hk' hb' (λh => z (.inl h)) d hd c hc
            rw[r3.old c c2]; exact c1)
        exact⟨β1, w1, _, this, hX0.trans r3, put_defers _ _ _, hst⟩
      ·
        have hz : isK 1 m = true := by unfold isK; rw[hk1]; rfl
        rw[hz, qX] at hs;obtain⟨⟨t, n, cc, rfl⟩, hvf, _⟩ := Ws h1 hx;unfold B9 at hs;rw[hd, ze] at hs
        cases ht : T.get d with
        | none => rw[ht] at hs; cases hs
        | some u =>
          rw[ht, ze] at hs
          cases hu : bid u with
          | none => rw[hu] at hs; cases hs
          | some c =>
            rw[hu, ze] at hs
            cases hrc : H.row c with
            | none => rw[hrc] at hs; cases hs
            | some q =>
              rw[hrc, ze] at hs
              cases hrn : (Heap.row ⟨H.blk.set H.next (.cells t n cc), H.next + 1⟩ H.next) with
              | none => simp only[hrn] at hs; cases hs
              | some q' =>
                simp only[hrn, ze] at hs;rw[zl, Le] at hs;have hre := zV _ _ hs.1;have hqq := I5 hs.2;subst hqq;have htv : tv T d = u := by unfold tv; rw[ht]; rfl
                obtain⟨c1, c2, c3⟩ := f.rows m hm hk1 hb hn d hd c (by rw[htv]; exact hu);have hwf := NG hE h1 hx (w := w) hops q hrn
                have hbk : X.cells t n cc = .cells q.t q.n q.c := by
                  obtain⟨b0, this, ha⟩ := JG hrn;have this : (H.blk.set H.next (.cells t n cc)).get H.next = some b0 := this;rw[M.zN, Y rfl] at this;cases this;cases ha;rfl
                have hsome : (β1 H.next).isSome := by
                  rcases hvf with rfl|⟨l, cp, rfl⟩
                  · exact r1
                  · exact r1.1
                obtain⟨x, hx1⟩ := LM.1 hsome;obtain⟨k1, k2⟩ := vJ hE f.rel r2 r3 hx1 hbk hwf c1 c2 hrc
                have hcv : WF (β.put c x) u /\ J (β.put c x) u = J β1 v := by
                  rw[<- hre];rcases hvf with rfl|⟨l, cp, rfl⟩
                  · refine⟨by simp[SP, WF, Inj.zS], ?_⟩
                    simp[SP, J, Inj.addr, Inj.blk, Inj.sh, Inj.zS, hx1]
                  · refine⟨⟨by simp[Inj.zS], r1.2⟩, ?_⟩
                    simp[SP, J, Inj.addr, Inj.blk, Inj.sh, Inj.zS, hx1]
                have hgl : YE E (β.put c x) H := by
                  refine⟨λg hg => ?_, f.glob.next, f.glob.facts.mono (Inj.yL c1), f.glob.tabs, f.glob.alts.mono (Inj.yL c1)⟩;rw[Inj.qw]
                  · exact f.glob.at_ g hg
                  · rintro rfl
                    rw[f.glob.at_ g hg] at c1;cases c1
                have := f.same hE hone hm hb hpre (v := u) hcv.1 k1 (Inj.yL c1) hgl (by
                  intro d' hd';rw[hd] at hd';cases hd'
                  exact htv) (λm' Q hk' hb' z d' hd' c' hc' => by
                    obtain⟨e1, _, _⟩ := f.rows m' Q hk' hb' (λh => z (.inl h)) d' hd' c' hc'
                    have hne : c' ≠ c := by
                      rintro rfl
                      exact f.apart m hm m' Q hk1 hk' hb hb' hn (λh => z (.inl h)) (λe => z (.inr e.symm)) d d' hd hd' c' (by rw[htv]; exact hu) hc'
                    rw[Inj.qw _ _ hne]; exact e1)
                rw[hcv.2] at this;refine⟨β.put c x, w1, _, this, ?_, put_defers _ _ _, hst⟩;refine⟨λid hid => ?_, hX0.next, hX0.apart, hX0.gone, hX0.ro, λid y hid hy => ?_, λc' hc' hr => ?_, Lj hX0.size r3.size, r3.tape.trans hX0.tape, r3.os.trans hX0.os, r3.output.trans hX0.output⟩
                · rw[Inj.qw _ _ I]; exact hX0.old id hid
                · by_cases hidc : id = c
                  · subst hidc
                    rw[Inj.zS] at hy;cases hy;exact .inl (Lj hX0.size k2)
                  · rw[Inj.qw _ _ hidc] at hy
                    exact hX0.new id y hid hy
                · rw[r3.frame c' (LK hc' hX0.size) ?_]
                  · exact hX0.frame c' hc' hr
                  · intro hr'
                    rcases hX0.Ml hr' with h|h
                    · omega
                    · exact hr h
  unfold again at hag;unfold ZN at unw wan
  cases hg : m.o.guard with
  | none =>
    rw[hg] at hag wan
    exact wan rfl hag
  | some g =>
    rw[hg, ze, zo, O (by rw[hsg g hg]; decide), zo] at hag;rw[hg] at wan unw;split at hag
    · rename_i h; exact wan h hag
    · rename_i h; exact unw (by simpa using h) hag
end
end
section
variable[Unk]
section
variable{E:Env}(hE:yF E)
include hE
omit hE in
theorem Lag.both{N:Nat}{fr:Fr}{ops:Er}(hone:Qw ops=true){H1:Heap}{β β1:Inj}{w1:Ea}{a:Act}(hL:Lag E N fr ops Dc Da T H β w a.tmps)
  {m:OpM} (hm:m∈qM E ops) (hb:bit Da m.i=false) (hpre:∀e∈m.o.after.toList,Region.binds .any e=true->Dc e.on) (hpreA:VR m.pre Da=true) {v:G} (hv:WF β1 v) (hR:Rel E.P β1 H1 w1)
  (hX:Ext β H w β1 H1 w1) (hlt:∀d,m.o.dst=some d->d<fr.n) :
  Lag E N fr ops (λj=>Dc j\/j=m.i) (KC Da m.i) (eE T m.o v) H1 β1 w1 (a.put m.o.dst (J β1 v)).tmps:=by
 obtain⟨g1,g2,g3,g4⟩:=jE hm;have hle:=hX.le hL.rel.bnd
 have old:∀ {i o t},ops[i]?=some o->o.dst=some t->i≠m.i->tv (eE T m.o v) t=tv T t:=by
  intro i o t hi hd hne;apply QH;intro hd';exact hne (cf hone i m.i o m.o t hi g1 hd hd')
 have hbit:∀i,bit (KC Da m.i) i=true->i≠m.i->bit Da i=true:=by
  intro i hi hne;rw[XI,AK,Lk]at hi;rcases hi with hi|hi
  .exact hi
  .exact Ld hi.symm hne
 have hadd:∀i,bit Da i=true->bit (KC Da m.i) i=true:=λi hi=>by rw[XI,hi];rfl
 have hself:bit (KC Da m.i) m.i=true:=by rw[XI];simp
 refine⟨hR,hL.glob.ext hL.rel.bnd hX,by rw[rX];exact hL.size,?_,?_,gH hL.closed g1 hpre,?_,?_,Lj hL.nn hX.next,?_,?_,lW g1 (by rw[<- g3];exact hpreA) hL.order⟩
 .intro t;by_cases hd:m.o.dst=some t
  .left;rw[Jf hd];refine .inr ⟨hv,U4 hd ?_⟩;rw[hL.size];exact hlt t hd
  .rw[Dw hd,QH hd];rcases hL.tmp t with h|⟨i,o,h1,h2,h3,h4⟩
   .exact .inl (h.mono hle)
   .refine .inr ⟨i,o,h1,h2,hadd i h3,?_⟩;rintro(h|rfl)
    .exact h4 h
    .rw[hb]at h3;cases h3
 .rintro i (h|rfl)
  .exact hadd i (hL.sub i h)
  .exact hself
 .intro m' hm' hk' hb';by_cases hi:m'.i=m.i
  .exact .inr hi
  .exact .inl (hL.heavy m' hm' hk' (hbit _ hb' hi))
 .intro m' hm' hk' hb' hn d hd c hc;have hi:m'.i≠m.i:=λh=>hn (.inr h);obtain⟨q1,_⟩:=jE hm';rw[old q1 hd hi]at hc;obtain⟨c1,c2,c3⟩:=hL.rows m' hm' hk' (hbit _ hb' hi) (λh=>hn (.inl h)) d hd c hc;exact⟨by rw[hX.old c c2];exact c1,LK c2 hX.next,c3⟩
 .intro m1 hm1 m2 hm2 k1 k2 b1 b2 n1 n2 hne d1 d2 e1 e2 c hc;have h1:m1.i≠m.i:=λh=>n1 (.inr h);have h2:m2.i≠m.i:=λh=>n2 (.inr h);obtain⟨q1,_⟩:=jE hm1;obtain⟨q2,_⟩:=jE hm2;rw[old q1 e1 h1]at hc;rw[old q2 e2 h2];exact hL.apart m1 hm1 m2 hm2 k1 k2 (hbit _ b1 h1) (hbit _ b2 h2) (λh=>n1 (.inl h)) (λh=>n2 (.inl h)) hne d1 d2 e1 e2 c hc
 .intro i o d hi hbi hd;by_cases he:i=m.i
  .subst he;rw[g1]at hi;cases hi;exact hlt d hd
  .exact hL.lt i o d hi (hbit _ hbi he) hd
omit hE in
theorem Lag.Gf{rec:Rec}(hO:ab E rec){N:Nat}{fr:Fr}{ops:Ep}(hone:Qw ops.toList=true){β:Inj}{a:Act}(hL:Lag E N fr ops.toList Dc Da T H β w a.tmps)
  {m:OpM} (hm:m∈qM E ops.toList) (hb:bit Da m.i=false) (hpre:∀e∈m.o.after.toList,Region.binds .any e=true->Dc e.on) (hpreA:VR m.pre Da=true)
  {K:pR}{r:jr} (he:cY E rec fr.n ops.toList m.o K T H=r) (hr:r≠.fail) {β0:Inj}{H0:Heap}{w0:Ea} (hX0:Ext β0 H0 w0 β H w) (b:Frame) (rest:Eb) (k:List Item) (cs:List Frame) :
  ∃T' H' β' w' a',K T' H'=r/\Lag E N fr ops.toList (λj=>Dc j\/j=m.i) (KC Da m.i) T' H' β' w' a'.tmps/\Ext β0 H0 w0 β' H' w'/\a'.defers=a.defers /\
   Steps E.P (lone (b.atR a (.inRegion ops (m.i::rest)::k)) cs w) (lone (b.atR a' (.inRegion ops rest::k)) cs w'):=by
 obtain⟨g1,_⟩:=jE hm;have ho:ops[m.i]?=some m.o:=by rw[<- LV];exact g1
 have hw:=hL.wanted g1 hpre (Bf he hr);obtain⟨v,H1,hK,hlt,hc⟩:=Ky he hr;rcases hc with⟨hf,hx⟩|⟨hf,rfl,rfl⟩
 .obtain⟨x,w1,⟨β1,rfl,r1,r2,r3⟩,hst⟩:=(hO β H w T m.o a.eval v H1 hL.rel hL.glob (hL.operands g1 hpre) hx).steps (b:=b) (rest:=rest) (k:=k) (cs:=cs) ho (hw.trans hf) (bG hx);exact⟨eE T m.o v,H1,β1,w1,_,hK,hL.both hone hm hb hpre hpreA r1 r2 r3 hlt,hX0.trans r3,put_defers _ _ _,hst⟩
 .have hstep:=stepR_op_skip (P:=E.P) (b:=b) (a:=a) (k:=k) (cs:=cs) (w:=w) (ops:=ops) (i:=m.i) (rest:=rest) (by rw[ho];simp only[Ac,LW];rw[hw];exact hf);rw[ho]at hstep;simp only[bind_some]at hstep;have hl:=hL.both hone hm hb hpre hpreA (v:=jo) Oc hL.rel (.refl _ _ _ hL.rel.bnd) hlt;rw[XF]at hl;exact⟨eE T m.o jo,H1,β,w,_,hK,hl,hX0,put_defers _ _ _,.one hstep⟩
omit hE in
theorem Ext.nR{β0 β:Inj}(hb:100<=H.next)(h:Ext β0 H0 w0 β H w)(hH:H'=H\/∃b,H'=⟨H.blk.set H.next b,H.next+1⟩):Ext β0 H0 w0 β H' w:=by
 rcases hH with rfl|⟨b,rfl⟩
 .exact h
 .have hn:=h.next
  have hget:∀id,id<H0.next->(H.blk.set H.next b).get id=H.blk.get id:=by
   intro id hid;rw[M.zN,O I]
  have hget60:∀id,id<100->(H.blk.set H.next b).get id=H.blk.get id:=by
   intro id hid;rw[M.zN,O I]
  exact⟨h.old,le_succ_of_le hn,λid hid e=>(hget id hid).trans (h.apart id hid e),λid c hid e=>h.gone id c hid ((hget id hid).symm.trans e),(λid hid=>(hget60 id hid).trans (h.ro id hid)),h.new,h.frame,h.size,h.tape,h.os,h.output⟩
omit hE in
theorem sg{rec:Rec}{N:Nat}{fr:Fr}{ops:Er}(hone:Qw ops=true){β:Inj}{K:DrF}{r:jr}(hr:r≠.fail){β0:Inj} :
  ∀(l:List OpM),(∀m∈l,m∈qM E ops)->∀(Da:Nat) (T:M G) (H:Heap),bX E rec fr.n ops K l Da T H=r->Lag E N fr ops Dc Da T H β w arr->Ext β0 H0 w0 β H w ->
   ∃Da' T' H',K Da' T' H'=r/\Lag E N fr ops Dc Da' T' H' β w arr/\Ext β0 H0 w0 β H' w:=by
 intro l
 induction l with
 | nil=>intro _ Da T H h hL hX;exact⟨Da,T,H,h,hL,hX⟩
 | cons m l ih=>
  intro hml Da T H h hL hX;have e0:bX E rec fr.n ops K (m::l) Da T H=ifB (bit Da m.i) (bX E rec fr.n ops K l Da T H) (ifB (L (kV (isK 2 m)) (VR m.pre Da)) (cY E rec fr.n ops m.o (λT H=>bX E rec fr.n ops K l (KC Da m.i) T H) T H) (bX E rec fr.n ops K l Da T H)):=rfl;rw[e0,zo]at h;have hml':∀m∈l,m∈qM E ops:=λm' hm'=>hml m' (by simp[hm']);split at h
  .exact ih hml' Da T H h hL hX
  .rename_i hb;rw[zo]at h;split at h
   .rename_i hc;rw[zl,Le,qW]at hc;obtain⟨hk,hp⟩:=hc;have hm:=hml m Oc
    have hk:m.kind≠2:=by
     intro hk2;unfold isK at hk;rw[hk2]at hk;cases hk
    obtain⟨v,H1,hK,hlt,hx⟩:=Ky h hr
    have hx':(aop m.o.op E rec T H=some (v,H1))\/(v=jo/\H1=H):=by
     rcases hx with⟨_,hx⟩|⟨_,hx⟩
     .exact .inl hx
     .exact .inr hx
    have hH:H1=H\/∃b,H1=⟨H.blk.set H.next b,H.next+1⟩:=by
     rcases hx' with hx|⟨_,rfl⟩
     .rcases(Vi hm hk).1 with⟨_,h0⟩|⟨_,h1,_⟩
      .exact .inl (Uw h0 hx).1
      .obtain⟨⟨t,n,c,e⟩,_⟩:=Ws h1 hx;exact .inr ⟨_,e⟩
     .exact .inl rfl
    exact ih hml' (KC Da m.i) (eE T m.o v) H1 hK (hL.zcf hone hm hk (by simpa using hb) hp hlt hx') (hX.nR hL.rel.base hH)
   .exact ih hml' Da T H h hL hX
omit hE in
theorem uP{ops:Er}{HA D:Nat}:∀ {l:List OpM},ic E ops HA D T H l=true->∀m∈l,m.kind≠2->bit D m.i=true->bit HA m.i=false->again E ops T H (isK 1 m) m.o=true:=by
 intro l
 induction l with
 | nil=>intro _ m h;cases h
 | cons x l ih=>
  intro h m hm hk hb ha;have e0:ic E ops HA D T H (x::l)=ifB (L (kV (isK 2 x)) (L (bit D x.i) (kV (bit HA x.i)))) (ifB (again E ops T H (isK 1 x) x.o) (ic E ops HA D T H l) false) (ic E ops HA D T H l):=rfl;rw[e0,zo]at h;rcases Lf.1 hm with rfl|hm
  .rw[Y]at h
   .rw[zo]at h;split at h
    .assumption
    .cases h
   .have hk2:isK 2 m=false:=by
     unfold isK;rw[zA];simpa using hk
    rw[hk2,hb,ha];rfl
  .split at h
   .rw[zo]at h;split at h
    .exact ih h m hm hk hb ha
    .cases h
   .exact ih h m hm hk hb ha
omit hE in
theorem Xy{D:Nat}:∀ {l:List OpM}{m:OpM},m∈enabled D l↔m∈l/\bit D m.i=false/\VR m.pre D=true:=by
 intro l
 induction l with
 | nil=>intro m;simp[enabled]
 | cons x l ih=>
  intro m;have e0:enabled D (x::l)=ifB (L (kV (bit D x.i)) (VR x.pre D)) (x::enabled D l) (enabled D l):=rfl;rw[e0,zo,zl,qW];by_cases hc:(!bit D x.i&&VR x.pre D)=true
  .rw[Y hc,Lf,Lf,ih];rw[Le]at hc;constructor
   .rintro(rfl|⟨h1,h2⟩)
    .exact⟨.inl rfl,by simpa using hc.1,hc.2⟩
    .exact⟨.inr h1,h2⟩
   .rintro⟨rfl|h1,h2⟩
    .exact .inl rfl
    .exact .inr ⟨h1,h2⟩
  .rw[O hc,Lf,ih];constructor
   .rintro⟨h1,h2⟩;exact⟨.inr h1,h2⟩
   .rintro⟨rfl|h1,h2,h3⟩
    .exact Ld (by rw[h2,h3];rfl) hc
    .exact⟨h1,h2,h3⟩
structure KH(ops:Ep)(Dc:Em)(listed:Array Bool):Prop where
 size:listed.size=ops.size
 iff:∀i,listed[i]?=some true↔Dc i
omit hE in
theorem KH.add{ops:Ep}(h:KH ops Dc listed)(hi:i<ops.size):KH ops (λj=>Dc j\/j=i) (listed.setIfInBounds i true) where
 size:=by simpa using h.size
 iff:=λj=>by
  rw[AN];by_cases hj:i=j
  .subst hj;rw[Y rfl,Y (by rw[h.size];exact hi)];simp
  .rw[O hj,h.iff];constructor
   .exact .inl
   .rintro(h'|rfl)
    .exact h'
    .exact Ld rfl hj
omit hE in
theorem VV{ops:Ep}(h:KH ops Dc listed):i∈ready .any ops listed↔¬Dc i/\∃o,ops[i]?=some o/\∀e∈o.after.toList,Region.binds .any e=true->Dc e.on:=by
 unfold ready;rw[List.mem_filter,Lr,Le]
 have hg:∀j,listed.getD j false=true↔Dc j:=by
  intro j;rw[<- h.iff,getD_eq_getD_getElem?];cases listed[j]? <;> simp
 constructor
 .rintro⟨h1,h2,h3⟩
  have ho:ops[i]?=some ops[i]:=Av h1;rw[ho]at h3;simp only[Ac,LW]at h3;refine⟨λhd=>?_,ops[i],ho,λe he hb=>?_⟩
  .rw[getD_eq_getD_getElem?,(h.iff i).2 hd]at h2;simp at h2
  .rw[<- all_toList]at h3;have:=Ad.1 h3 e he;rw[hb]at this;exact(hg _).1 (by simpa using this)
 .rintro⟨h1,o,ho,h2⟩
  have hlt:=(LO.1 ho).1;refine⟨hlt,?_,?_⟩
  .rw[getD_eq_getD_getElem?];have:listed[i]?≠some true:=λe=>h1 ((h.iff i).1 e);obtain⟨bv,hs⟩:∃bv,listed[i]?=some bv:=⟨_,Av (by rw[h.size];exact hlt)⟩
   rw[hs]at this ⊢;simp at this ⊢;exact this
  .rw[ho];simp only[Ac,LW];rw[<- all_toList,Ad];intro e he;by_cases hb:Region.binds .any e=true
   .rw[(hg _).2 (h2 e he hb)];simp
   .simp[hb]
omit hE in
theorem Gu:∀(L:Eb),(∃j∈L,¬Dc j)->∃L1 j L2,L=L1++j::L2/\¬Dc j/\∀i∈L1,Dc i:=by
 intro L
 induction L with
 | nil=>rintro⟨j,h,_⟩;cases h
 | cons x L ih=>
  rintro⟨j,h1,h2⟩
  by_cases hx:Dc x
  .rcases Lf.1 h1 with rfl|h1
   .exact Ld hx h2
   .obtain⟨L1,i,L2,e,a1,a2⟩:=ih ⟨j,h1,h2⟩;refine⟨x::L1,i,L2,by rw[e];rfl,a1,?_⟩;intro y hy;rcases Lf.1 hy with rfl|hy
    .exact hx
    .exact a2 y hy
  .exact⟨[],x,L,rfl,hx,Oc⟩
omit hE in
theorem vy{rec:Rec}{N:Nat}{fr:Fr}{ops:Ep}{β:Inj}(hL:Lag E N fr ops.toList Dc Da T H β w arr)
  {listed:Array Bool} (hl:KH ops Dc listed) (hn:ready .any ops listed=[]) {next:Nat->DrF}{HA:Nat}{r:jr} (h:Yv next E rec fr.n ops.toList (qM E ops.toList) HA Da T H=r) (hr:r≠.fail) :
  ∀i,i<ops.size->Dc i:=by
 obtain⟨L,hL1,hL2⟩:=hL.order;by_cases hp:∃j∈L,¬Dc j
 .exfalso;obtain⟨L1,j,L2,e,a1,a2⟩:=Gu L hp;obtain⟨o,ho,hpre⟩:=hL2 L1 j L2 e;have:j∈ready .any ops listed:=(VV hl).2 ⟨a1,o,by rw[<- LV];exact ho,λe he hb=>a2 _ (hpre e he hb)⟩;rw[hn]at this;cases this
 .have hall:∀j,bit Da j=true->Dc j:=λj hj=>Classical.byContradiction λhd=>hp ⟨j,(hL1 j).1 hj,hd⟩;unfold Yv at h;rw[zo]at h;split at h
  case isFalse=>exact Ld h.symm hr
  revert h
  cases hen:enabled Da (qM E ops.toList) with
  | nil=>
   intro h;rw[ou,zo]at h;split at h
   .rename_i hf;rw[jV]at hf;intro i hi;exact hall i (Rv hf (by simpa using hi))
   .exact Ld h.symm hr
  | cons m l=>
   intro _;exfalso;have hm:m∈enabled Da (qM E ops.toList):=by rw[hen];simp
   obtain⟨h1,h2,h3⟩:=Xy.1 hm;obtain⟨g1,_,g3,_⟩:=jE h1
   have:m.i∈ready .any ops listed:=(VV hl).2 ⟨λhd=>(by rw[hL.sub _ hd]at h2;cases h2),m.o,by rw[<- LV];exact g1,λe he hb=>
    hall _ (nu h3 (by rw[g3];exact(de _ _).2 ⟨e,he,hb,rfl⟩))⟩
   rw[hn]at this;cases this
omit hE in
theorem ly{rec:Rec}{N:Nat}{fr:Fr}{ops:Ep}{β:Inj}(hL:Lag E N fr ops.toList Dc Da T H β w arr)
  (hall:∀i,i<ops.size->Dc i) {next:Nat->DrF}{HA:Nat}{r:jr} (h:Yv next E rec fr.n ops.toList (qM E ops.toList) HA Da T H=r) (hr:r≠.fail) :
  r = .nrm T H/\yH β fr.n T arr:=by
 refine⟨?_,hL.size,λt=>?_⟩
 .unfold Yv at h;rw[zo]at h;split at h
  case isFalse=>exact Ld h.symm hr
  have hen:enabled Da (qM E ops.toList)=[]:=by
   cases hen:enabled Da (qM E ops.toList) with
   | nil=>rfl
   | cons m l=>
    exfalso;have hm:m∈enabled Da (qM E ops.toList):=by rw[hen];simp
    obtain⟨h1,h2,h3⟩:=Xy.1 hm;obtain⟨g1,_⟩:=jE h1;have hlt:=(LL.1 g1).1;rw[hL.sub _ (hall _ (by simpa using hlt))]at h2;cases h2
  rw[hen,ou,zo]at h;split at h
  .exact h.symm
  .exact Ld h.symm hr
 .rcases hL.tmp t with h|⟨i,o,h1,_,_,h4⟩
  .exact h
  .have hlt:=(LL.1 h1).1;exact Ld (hall i (by simpa using hlt)) h4
theorem Gy{rec:Rec}(hO:ab E rec){N:Nat}{fr:Fr}{ops:Ep}(hone:Qw ops.toList=true){β0:Inj}(hN:H0.next=N)(b:Frame)(k:List Item)(cs:List Frame){r:jr}(hr:r≠.fail) :
  ∀(fc t:Nat) (listed:Array Bool) (Dc:Em) (Da:Nat) (T:M G) (H:Heap) (β:Inj) (w:Ea) (a:Act) (f HA:Nat),
   Lag E N fr ops.toList Dc Da T H β w a.tmps->KH ops Dc listed->listed.toList.count false<=fc->(∀j,bit HA j=true->Dc j)->Ext β0 H0 w0 β H w ->
   Yv (zbd E rec fr.n ops.toList (qM E ops.toList) f) E rec fr.n ops.toList (qM E ops.toList) HA Da T H=r ->
   ∃β' w' a' T' H',r = .nrm T' H'/\Rel E.P β' H' w'/\Ext β0 H0 w0 β' H' w'/\yH β' fr.n T' a'.tmps/\a'.defers=a.defers /\
    Steps E.P (lone (b.atR a (.inRegion ops (Region.linearise.go .any ops fc t listed [])::k)) cs w) (lone (b.atR a' k) cs w'):=by
 intro fc
 induction fc with
 | zero=>
  intro t listed Dc Da T H β w a f HA hL hl hcnt hHA hX h
  have hall:∀i,i<ops.size->Dc i:=by
   intro i hi;obtain⟨bv,hs⟩:∃bv,listed[i]?=some bv:=⟨_,Av (by rw[hl.size];exact hi)⟩
   rw[<- hl.iff,hs];have hz:listed.toList.count false=0:=by omega
   rw[List.count_eq_zero]at hz
   cases bv with
   | true=>rfl
   | false=>
    exfalso;apply hz;rw[<- LV]at hs;exact LX hs
  obtain⟨e,hT⟩:=ly hL hall h hr
  exact⟨β,w,a,T,H,e,hL.rel,hX,hT,rfl,.one stepR_region_end⟩
 | succ fc ih=>
  intro t listed Dc Da T H β w a f HA hL hl hcnt hHA hX h
  have hgo:Region.linearise.go .any ops (fc+1) t listed []=match(ready .any ops listed)[t % (ready .any ops listed).length]? with
   | some i=>Region.linearise.go .any ops fc (t / (ready .any ops listed).length) (listed.setIfInBounds i true) [i]
   | none=>[]:=rfl
  rw[hgo]
  cases hi:(ready .any ops listed)[t % (ready .any ops listed).length]? with
  | none=>
   have hnil:ready .any ops listed=[]:=by
    cases hrd:ready .any ops listed with
    | nil=>rfl
    | cons x xs=>
     rw[hrd]at hi;have hlt:t % (x::xs).length<(x::xs).length:=Af _ Oc;rw[List.getElem?_eq_none_iff]at hi;omega
   obtain⟨e,hT⟩:=ly hL (vy hL hl hnil h hr) h hr
   exact⟨β,w,a,T,H,e,hL.rel,hX,hT,rfl,.one stepR_region_end⟩
  | some i=>
   simp only[];rw[linearise_go_acc,reverse_singleton,singleton_append];obtain⟨hnd,o,ho,hpre⟩:=(VV hl).1 (LX hi);have hlt:=(LO.1 ho).1;have ho':ops.toList[i]?=some o:=by rw[LV];exact ho
   obtain⟨m,hm,rfl,rfl⟩:=sX E ho';have hl':=hl.add hlt
   have hcnt':(listed.setIfInBounds m.i true).toList.count false<=fc:=by
    rw[toList_setIfInBounds];have hlen:m.i<listed.toList.length:=by simpa[hl.size] using hlt
    rw[List.count_set hlen]
    have hf:listed.toList[m.i]=false:=by
     have hs:listed.toList[m.i]?=some listed.toList[m.i]:=Ly hlen
     cases hv:listed.toList[m.i] with
     | true=>rw[hv,LV]at hs;exact Ld ((hl.iff m.i).1 hs) hnd
     | false=>rfl
    have hpos:1<=listed.toList.count false:=by
     rw[one_le_iff_ne_zero,Ne,List.count_eq_zero];intro hz;apply hz;rw[<- hf];exact AL hlen
    rw[hf,Y (by rfl),O C];omega
   cases hb:bit Da m.i with
   | true=>
    have hk:m.kind≠2:=λhk=>hnd (hL.heavy m hm hk hb)
    have hag:again E ops.toList T H (isK 1 m) m.o=true:=by
     unfold Yv at h;rw[zo]at h;split at h
     case isFalse=>exact Ld h.symm hr
     rename_i hag;refine uP hag m hm hk hb ?_
     cases hh:bit HA m.i with
     | false=>rfl
     | true=>exact Ld (hHA _ hh) hnd
    obtain⟨β',w',a',q1,q2,q3,q4⟩:=hL.step hE hone hm hk hb hnd hpre hag hX hN b (Region.linearise.go .any ops fc (t / (ready .any ops listed).length) (listed.setIfInBounds m.i true) []) k cs;obtain⟨β2,w2,a2,T2,H2,e1,e2,e3,e4,e5,e6⟩:=ih (t / (ready .any ops listed).length) (listed.setIfInBounds m.i true) _ Da T H β' w' a' f HA q1 hl' hcnt' (λj hj=>.inl (hHA j hj)) q2 h
    exact⟨β2,w2,a2,T2,H2,e1,e2,e3,e4,e5.trans q3,q4.trans e6⟩
   | false=>
    obtain⟨g1,g2,g3,g4⟩:=jE hm
    have hpreA:VR m.pre Da=true:=zbz λj hj=>by
     rw[g3]at hj;obtain⟨e,he,hbd,rfl⟩:=(de _ _).1 hj;exact hL.sub _ (hpre e he hbd)
    have hme:m∈enabled Da (qM E ops.toList):=Xy.2 ⟨hm,hb,hpreA⟩;have h0:=h;unfold Yv at h0;rw[zo]at h0;split at h0
    case isFalse=>exact Ld h0.symm hr
    revert h0 hme
    cases hen:enabled Da (qM E ops.toList) with
    | nil=>intro hme;cases hme
    | cons x l=>
     intro hme h0
     cases l with
     | cons y l=>exact Ld h0.symm hr
     | nil=>
      rw[Lu]at hme;subst hme;simp only[ZY,ou,zo]at h0;split at h0
      case isFalse=>exact Ld h0.symm hr
      simp only[qg,PQ]at h0
      cases f with
      | zero=>
       obtain⟨v,H1,hK,_⟩:=Ky h0 hr
       exact Ld hK.symm hr
      | succ f=>
       obtain⟨T1,H1,β1,w1,a1,hK,q1,q2,q3,q4⟩:=hL.Gf hO hone hm hb hpre hpreA h0 hr hX b (Region.linearise.go .any ops fc (t / (ready .any ops listed).length) (listed.setIfInBounds m.i true) []) k cs;have hK:bX E rec fr.n ops.toList (Yv (zbd E rec fr.n ops.toList (qM E ops.toList) f) E rec fr.n ops.toList (qM E ops.toList) (lor HA m.anc)) (qM E ops.toList) (KC Da m.i) T1 H1=r:=hK;obtain⟨Da2,T2,H2,hK2,hL2,hX2⟩:=sg hone hr (qM E ops.toList) (λ_ h=>h) _ _ _ hK q1 q2
       have hHA':∀j,bit (lor HA m.anc) j=true->Dc j\/j=m.i:=by
        intro j hj;rw[pr,AK]at hj;rcases hj with hj|hj
        .exact .inl (hHA j hj)
        .obtain⟨o',ho2,hall⟩:=(Vu ops.toList).1 m.i m.anc j g2 hj;rw[g1]at ho2;cases ho2;exact .inl (hall Dc hL.closed hpre)
       obtain⟨β2,w2,a2,T3,H3,e1,e2,e3,e4,e5,e6⟩:=ih (t / (ready .any ops listed).length) (listed.setIfInBounds m.i true) _ Da2 T2 H2 β1 w1 a1 f (lor HA m.anc) hL2 hl' hcnt' hHA' hX2 hK2;exact⟨β2,w2,a2,T3,H3,e1,e2,e3,e4,e5.trans q3,q4.trans e6⟩
theorem De(u:E.P.follows .mixedOrders=true){rec:Rec}(hO:ab E rec):Bq E rec:=by
 intro fr id ops T H β w b a k cs B it hit p;obtain rfl:it = .code (.region id ops true):=by rcases hit with h|⟨d,h,_⟩;exact h;cases h
 show Out E.P fr B β H w b k cs _ (uS E rec fr.n ops.toList T H);generalize f:uS E rec fr.n ops.toList T H=r;by_cases g:r = .fail
 .rw[g];trivial
 .unfold uS at f;rw[zo]at f;split at f
  case isFalse=>exact Ld f.symm g
  rename_i hone;have f:bX E rec fr.n ops.toList (Yv (zbd E rec fr.n ops.toList (qM E ops.toList) (je ops.toList 0)) E rec fr.n ops.toList (qM E ops.toList) 0) (qM E ops.toList) 0 T H=r:=f;have z:=ZC w;have hX0:Ext β H w β H { w with drawn:=w.drawn+1 }:=Ext.alike p.rel.bnd z
  have hL0:Lag E H.next fr ops.toList (λ_=>False) 0 T H β { w with drawn:=w.drawn+1 } a.tmps:=
   ⟨p.rel.alike z,p.glob,p.tmp.size,λt=>.inl (p.tmp.tmp t),λi h=>h.elim,λi o _ h=>h.elim,λm _ _ h=>(by rw[Z7]at h;cases h),λm _ _ h=>(by rw[Z7]at h;cases h),Lh _,
    λm _ m' _ _ _ h=>(by rw[Z7]at h;cases h),λi o d _ h=>(by rw[Z7]at h;cases h),⟨[],λi=>(by rw[Z7];simp),λL1 i L2 e=>(by simp at e)⟩⟩
  obtain⟨Da,T1,H1,hK,hL1,hX1⟩:=sg hone g (qM E ops.toList) (λ_ h=>h) _ _ _ f hL0 hX0
  have Q:KH ops (λ_=>False) (Array.replicate ops.size false):=⟨Oc,λi=>by
   rw[Array.getElem?_replicate]
   split<;>simp⟩
  obtain⟨β',w',a',T',H',e1,e2,e3,e4,e5,e6⟩:=Gy hE hO hone rfl b k cs g ops.size (w.tape w.drawn (.order b.fn id)) (Array.replicate ops.size false) (λ_=>False) Da T1 H1 β { w with drawn:=w.drawn+1 } a
   (je ops.toList 0) 0 hL1 Q Oc (λj h=>by rw[Z7]at h;cases h) hX1 hK
  subst e1;refine⟨β',w',a',⟨e2,e3,e4,by rw[e5];exact p.marks.ext e3⟩,.head stepR_region_draw ?_⟩;rw[u];exact e6
end
end
section
variable[Unk]
def Res.mono{m:Sem Next}{R d:Value->World->Prop}(h:Res P m w R)(a:∀x w',R x w'->d x w'):Res P m w d:=by
 obtain⟨nx,g,h1,h2⟩:=h;refine⟨nx,g,h1,?_⟩
 cases nx with
 | value v=>exact a _ _ h2
 | skip=>exact a _ _ h2
 | enter f args=>exact Calls.mono h2 λe w2 ⟨v,j,i⟩=>⟨v,j,a _ _ i⟩
 | round l f tmps as k=>
  intro c cs;obtain⟨v,w2,r,s⟩:=h2 c cs
  exact⟨v,w2,a _ _ r,s⟩
 | _=>exact h2.elim
def we{g β1 β':Inj}(h1:∀id,id<m->β1 id=g id)(h2:∀id,id<m->β' id=g id)(a:nZ m v=true)(hw:WF β1 v):WF β' v/\J β' v=J β1 v:=by
 cases v<;>try(cases a;done)
 case bool b=>exact⟨trivial,rfl⟩
 case int k n=>exact⟨trivial,rfl⟩
 case str s=>exact⟨hw,rfl⟩
 case nilp=>exact⟨trivial,rfl⟩
 case nilslice=>exact⟨trivial,rfl⟩
 case nilmap=>exact⟨trivial,rfl⟩
 case nilfn=>exact⟨trivial,rfl⟩
 case niliface=>exact⟨trivial,rfl⟩
 case ptr b o=>
  have hb:Nat.blt b m=true:=a;rw[zW,Lk]at hb;have e:β' b=β1 b:=by rw[h1 b hb,h2 b hb]
  exact⟨by simp only[WF]at hw ⊢;rw[e];exact hw,by simp[J,Inj.addr,Inj.blk,Inj.sh,e]⟩
 case slice b o l c ex=>
  have hb:L ex (Nat.blt b m)=true:=a;rw[zl,Le,zW,Lk]at hb;have e:β' b=β1 b:=by rw[h1 b hb.2,h2 b hb.2]
  exact⟨by simp only[WF]at hw ⊢;rw[e];exact hw,by simp[J,Inj.addr,Inj.blk,Inj.sh,Inj.ext,e]⟩
 case sym b=>
  have hb:Nat.blt b m=true:=a;rw[zW,Lk]at hb;have e:β' b=β1 b:=by rw[h1 b hb,h2 b hb]
  exact⟨by simp only[WF]at hw ⊢;rw[e];exact hw,by simp[J,e]⟩
 case map b=>
  have hb:Nat.blt b m=true:=a;rw[zW,Lk]at hb;have e:β' b=β1 b:=by rw[h1 b hb,h2 b hb]
  exact⟨by simp only[WF]at hw ⊢;rw[e];exact hw,by simp[J,Inj.blk,e]⟩
section
variable{E:Env}(hE:yF E)
include hE
omit hE in
theorem cd{sz:Nat}{t:Eg}{r:R}{p:Nat×List G}(h:eZ sz t r=some p) :
  ∃(b cap:Nat) (ex:Bool) (H1:Heap) (q:Row),100<=b/\r=some (.slice b 0 p.1 cap ex,H1)/\H1.row b=some q/\q.t=t/\(if ex then cap*sz<=q.n else cap*sz=q.n)/\p.1<=cap/\M.Xu (p.1*sz) q.c 0=some p.2:=by
 replace h:=D h;obtain⟨r1,rfl,h⟩:=h;replace h:=D h;obtain⟨s,hs,h⟩:=h;replace h:=D h;obtain⟨q,hq,h⟩:=h;replace h:=zh h;obtain⟨hc,h⟩:=h;replace h:=D h;obtain⟨l,hl,h⟩:=h;cases h;simp only[zl,Le,zA,Ll,zK,Lk]at hc;obtain⟨c0,c1,c2,c3,c4⟩:=hc;have hv:=kc hs;obtain⟨v,H1⟩:=r1;simp only at hv hq;subst hv;refine⟨s.b,s.cap,s.ex,H1,q,c0,by rw[c1],hq,c2,?_,c4,hl⟩;rw[zo]at c3
 cases hx:s.ex with
 | true=>rw[hx]at c3;simpa[zK] using c3
 | false=>rw[hx]at c3;simpa[zA] using c3
theorem CV{g βr β1:Inj}{Hr H1:Heap}{u:Ea}{k:Nat}{sz:Nat}{cap:Nat}{ex:Bool}{q:Row}(hR:Rel E.P g H w)(hsb:(g m).isSome)(hvb:(g k).isSome)
  {bs bv:X} (hHs:H.blk.get m=some bs) (hHv:H.blk.get k=some bv)
  (hs60:100<=m) (hv60:100<=k) (hold:∀id,id<H.next->βr id=g id) (hb60:100<=b) (hrange:∀c,Range βr Hr c->c=g.blk m\/c=g.blk k) (hnx:H.next<=Hr.next) (hR1:Rel E.P β1 H1 u) (hX:Ext βr Hr w β1 H1 u) (hts:qS E.P t=sz)
  (hv:WF β1 (.slice b 0 n cap ex)) (hq:H1.row b=some q) (hqt:q.t=t) (hcap:if ex then cap*sz<=q.n else cap*sz=q.n) (hn:n<=cap) (hl:M.Xu (n*sz) q.c 0=some l) (hoc:Jb (nZ H.next) l=true) :
  RR E.P g H w (.slice H.next 0 n n false) ⟨((H.blk.del m).del k).set H.next (.cells t (n*sz) (M.ofList l)),H.next+1⟩ (J β1 (.slice b 0 n cap ex)) u:=by
 have _:=hE;obtain⟨ys,T⟩:=LM.1 hsb;obtain⟨yv,Q⟩:=LM.1 hvb;have hbs:g.blk m=ys.1:=by simp[Inj.blk,T]
 have hbv:g.blk k=yv.1:=by simp[Inj.blk,Q]
 obtain⟨y,hy⟩:=LM.1 hv.1;obtain⟨arr,fz,a1,a2⟩:=hR1.rowAt hq hv.1;have hb1:β1.blk b=y.1:=by simp[Inj.blk,hy]
 have hs1:β1.sh b=y.2.1:=by simp[Inj.sh,hy]
 have he1:β1.ext b=y.2.2:=by simp[Inj.ext,hy]
 rw[hb1]at a1;rw[hs1,he1]at a2;rw[hqt]at a1 a2;let C:=if ex then cap else cap+y.2.2
 have hC:n<=C:=by
  show n<=if ex then cap else cap+y.2.2
  split<;>omega
 let x:Nat×Nat×Nat:=(y.1,y.2.1,C-n)
 have hf:=hR.fresh (Lh H.next);have holdr:∀id,id<H.next->β1 id=g id:=λid hid=>by rw[hX.old id (LK hid hnx)];exact hold id hid
 have holdx:∀id,id<H.next->(g.put H.next x) id=g id:=λid hid=>Inj.qw _ _ I;have hle:g.le (g.put H.next x):=Inj.yL hf
 have hblk:w.heap.size<=y.1\/y.1=g.blk m\/y.1=g.blk k:=by
  obtain⟨b0,hb0,_⟩:=JG hq;rcases hX.Ml ⟨b,_,y,hb60,hb0,hy,rfl⟩ with h|h
  .exact .inl h
  .exact .inr (hrange _ h)
 have f:∀ {id d z},H.blk.get id=some d->g id=some z->id≠m->id≠k->z.1≠y.1:=by
  intro id d z h1 h2 n1 n2 e;rcases hblk with h|h|h
  .have:=(hR.blk id d z h1 h2).lt;omega
  .exact n1 (hR.QV (.inr hs60) h1 h2 hHs T (by rw[e,h,hbs]))
  .exact n2 (hR.QV (.inr hv60) h1 h2 hHv Q (by rw[e,h,hbv]))
 have hframe:∀ {id d z},H.blk.get id=some d->g id=some z->id≠m->id≠k->u.heap[z.1]?=w.heap[z.1]?:=by
  intro id d z h1 h2 n1 n2;refine hX.frame _ (hR.blk id d z h1 h2).lt λhr=>?_;rcases hrange _ hr with h|h
  .exact n1 (hR.QV (.inr hs60) h1 h2 hHs T (by rw[h,hbs]))
  .exact n2 (hR.QV (.inr hv60) h1 h2 hHv Q (by rw[h,hbv]))
 have aux:∀ {id d},(((H.blk.del m).del k).set H.next (.cells t (n*sz) (M.ofList l))).get id=some d->id≠H.next->id≠m/\id≠k/\H.blk.get id=some d:=by
  intro id d h hid;rw[M.zN,O (λe=>hid e.symm),M.jv]at h;split at h
  .cases h
  .rename_i n2;rw[M.jv]at h;split at h
   .cases h
   .rename_i n1;exact⟨λe=>n1 e.symm,λe=>n2 e.symm,h⟩
 have self:∀ {d},(((H.blk.del m).del k).set H.next (.cells t (n*sz) (M.ofList l))).get H.next=some d->d = .cells t (n*sz) (M.ofList l):=by
  intro d h;rw[M.zN,Y rfl]at h;cases h;rfl
 have a:∀ {id z},id≠H.next->g.put H.next x id=some z->g id=some z:=by
  intro id z hid h;rw[Inj.qw _ _ hid]at h;exact h
 obtain⟨l1,l2⟩:=M.jZ _ _ _ _ hl
 have hrow:zO E.P (g.put H.next x) (.cells t (n*sz) (M.ofList l)) x u:=by
  refine⟨arr,fz,a1,?_,?_,a2.thaw,a2.al⟩
  .have h1:=a2.size;rw[hts]at h1 ⊢;show y.2.1+n*sz+(C-n)*sz<=arr.size;have h2:(C-n)*sz=C*sz-n*sz:=Nat.sub_mul _ _ _;have h3:n*sz<=C*sz:=mul_le_mul_right _ hC
   have h4:C*sz<=q.n+y.2.2*sz:=by
    show(if ex then cap else cap+y.2.2)*sz<=_
    cases ex with
    | true=>simp only[if_true]at hcap ⊢;omega
    | false=>
     simp only[Ai,LY]at hcap ⊢;rw[Nat.add_mul];omega
   omega
  .intro i v hvv;rw[M.qy]at hvv;have hlt:=(LL.1 hvv).1;have hg:=l2 i (by rw[<- l1];exact hlt);rw[Lz,hvv]at hg;obtain⟨f1,f2⟩:=a2.cell i v hg;rw[Z9,Ad]at hoc;obtain⟨e1,e2⟩:=we holdr holdx (hoc v (LX hvv)) f1;exact⟨e1,by rw[e2];exact f2⟩
 refine⟨g.put H.next x,?_,⟨by simp[Inj.zS],Lh _⟩,⟨le_succ_of_le hR.base,?_,?_,?_,?_⟩,⟨λid hid=>holdx id hid,le_succ _,?_,?_,?_,?_,?_,hX.size,hX.tape,hX.os,hX.output⟩⟩
 .simp only[J,Inj.addr,Inj.blk,Inj.sh,Inj.ext,Inj.zS,hy,LW,Ai,LY];congr 1
  show(if ex=true then cap else cap+y.2.2)=n+(C-n);show C=_;omega
 .intro id d z h1 h2;by_cases hid:id=H.next
  .subst hid;rw[self h1];rw[Inj.zS]at h2;cases h2;exact hrow
  .obtain⟨n1,n2,h1'⟩:=aux h1 hid;have h2':=a hid h2;exact((hR.blk id d z h1' h2').heap (hframe h1' h2' n1 n2)).mono hle
 .intro i j bi bj zi zj h1 h2 h3 h4 e;by_cases hi:i=H.next
  .by_cases hj:j=H.next
   .exact .inl (by rw[hi,hj])
   .subst hi;rw[Inj.zS]at h2;cases h2;obtain⟨n1,n2,h3'⟩:=aux h3 hj;exact Ld e.symm (f h3' (a hj h4) n1 n2)
  .obtain⟨n1,n2,h1'⟩:=aux h1 hi;by_cases hj:j=H.next
   .subst hj;rw[Inj.zS]at h4;cases h4;exact Ld e (f h1' (a hi h2) n1 n2)
   .obtain⟨_,_,h3'⟩:=aux h3 hj;exact hR.inj i j bi bj zi zj h1' (a hi h2) h3' (a hj h4) e
 .intro id z h;show id<H.next+1;by_cases hid:id=H.next
  .omega
  .have:=hR.bnd _ _ (a hid h);omega
 .intro id d h;show id<H.next+1;by_cases hid:id=H.next
  .omega
  .have:=hR.live _ _ (aux h hid).2.2;omega
 .intro id hid e;show(((H.blk.del m).del k).set H.next (.cells t (n*sz) (M.ofList l))).get id=_;rw[M.zN,O I,M.jv,O,M.jv,O]
  .rintro rfl;rw[T]at e;cases e
  .rintro rfl;rw[Q]at e;cases e
 .intro id d hid h;exact⟨d,(aux h I).2.2⟩
 .intro id hid;have:=hR.base;show(((H.blk.del m).del k).set H.next (.cells t (n*sz) (M.ofList l))).get id=_;rw[M.zN,O I,M.jv,O I,M.jv,O I]
 .intro id z hid h;by_cases hidn:id=H.next
  .subst hidn;rw[Inj.zS]at h;cases h;rcases hblk with h|h|h
   .exact .inl h
   .exact .inr ⟨m,bs,ys,hs60,hHs,T,by rw[<- hbs];exact h.symm⟩
   .exact .inr ⟨k,bv,yv,hv60,hHv,Q,by rw[<- hbv];exact h.symm⟩
  .exact Ld (hR.bnd _ _ (a hidn h)) I
 .intro c hc hr;refine hX.frame c hc λh=>hr ?_;rcases hrange _ h with h|h
  .exact⟨m,bs,ys,hs60,hHs,T,by rw[h,hbs]⟩
  .exact⟨k,bv,yv,hv60,hHv,Q,by rw[h,hbv]⟩
end
end
section
variable[Unk]
section
variable{E:Env}(hE:yF E)
include hE
omit hE in
theorem dG{U:M X}{a:Nat}{x y:X}(h:a≠b)(i:Nat):(M.set (M.set U a x) b y).get i=if b=i then some y else if a=i then some x else U.get i:=by
 have _:=h;rw[M.zN,M.zN]
theorem NW(hN:XK E.P){rec:Rec}(hRec:WR E rec):DI E rec:=by
 intro f args H H' v β w h hR hG hargs;unfold pH at h
 cases args with
 | nil=>cases h
 | cons a args=>
 cases args with
 | nil=>cases h
 | cons i args=>
 cases args with
 | nil=>cases h
 | cons vv args=>
 simp only[ZY]at h;replace h:=Jc h;obtain⟨hnil,h⟩:=h;subst hnil
 cases hs:yp a with
 | none=>
  rw[hs,zn]at h
  exact ZK hE hN hRec h hR hG hargs
 | some s=>
  rw[hs,ze,zo]at h;split at h
  .exact ZK hE hN hRec h hR hG hargs
  .rename_i hex;replace h:=D h;obtain⟨d,hvs,h⟩:=h;simp only[qg]at h;have hva:=kc hs;have hvv:=kc hvs;subst hva;subst hvv;have hex:s.ex=false:=by simpa using hex
   replace h:=D h;obtain⟨r,hr,h⟩:=h;replace h:=D h;obtain⟨q,hq,h⟩:=h;replace h:=D h;obtain⟨sz,hsz,h⟩:=h;replace h:=zh h;obtain⟨hc,h⟩:=h;simp only[zl,Le,qW,zA]at hc;obtain⟨⟨hs60,hv60⟩,c1,c2,c3⟩:=hc;rw[zK,Lk]at hs60 hv60;have c1:s.b≠d.b:=by simpa using c1
   have c3:s.off+s.cap*sz=r.n:=by simpa using c3
   unfold NX at h;replace h:=D h;obtain⟨p,hp,h⟩:=h;replace h:=D h;obtain⟨p2,hp2,h⟩:=h;replace h:=zh h;obtain⟨hc2,h⟩:=h;simp only[zl,Le,zA,Ll]at hc2;obtain⟨d1,d2,d3⟩:=hc2;have d2:=j5 _ _ d2
   have hpe:p2=p:=by
    obtain⟨x1,x2⟩:=p;obtain⟨y1,y2⟩:=p2;simp only at d1 d2;rw[d1,d2]
   subst hpe;have hts:qS E.P r.t=sz:=(QI hE hsz).choose_spec.2.2.2;have hwa:WF β (.slice s.b s.off s.len s.cap s.ex):=hargs.1;have hwi:WF β i:=hargs.2.1;have hwv:WF β (.slice d.b d.off d.len d.cap d.ex):=hargs.2.2.1;have hHs:=Df hr;have Q:=Df hq;have hHs:H.blk.get s.b=some (.cells r.t r.n r.c):=hHs;have Q:H.blk.get d.b=some (.cells q.t q.n q.c):=Q;have hls:=hR.live _ _ hHs;have hlv:=hR.live _ _ Q;obtain⟨ys,hys⟩:=LM.1 hwa.1;obtain⟨yv,hyv⟩:=LM.1 hwv.1;have hbs:β.blk s.b=ys.1:=by simp[Inj.blk,hys]
   have hbv:β.blk d.b=yv.1:=by simp[Inj.blk,hyv]
   have hbex:β.ext s.b=ys.2.2:=by simp[Inj.ext,hys]
   have hU:∀id m,(jj E.tabs).get id=some m->id<100/\H.blk.get id=some m:=λid m hh=>hG.tabs (id,m) (kK _ _ _ hh)
   have hTab:∀(V:M X),(∀id,id<100->V.get id=(jj E.tabs).get id)->∀p∈E.tabs,p.1<100/\V.get p.1=some p.2:=by
    intro V hV p hp;obtain⟨t1,t2⟩:=hG.tabs p hp;obtain⟨m,hbl⟩:=vm _ p hp;refine⟨t1,?_⟩;rw[hV p.1 t1,hbl,<- t2,(hU _ _ hbl).2]
   cases h
   cases hext:ys.2.2 with
   | zero=>
    let Hr:Heap:=⟨M.set (M.set (jj E.tabs) s.b (.cells r.t r.n r.c)) d.b (.cells q.t q.n q.c),H.next⟩
    have j:∀id m,Hr.blk.get id=some m->H.blk.get id=some m/\(id<100\/id=s.b\/id=d.b):=by
     intro id m hh;replace hh:(M.set (M.set (jj E.tabs) s.b (.cells r.t r.n r.c)) d.b (.cells q.t q.n q.c)).get id=some m:=hh;rw[dG c1]at hh;split at hh
     .rename_i e;subst e;cases hh;exact⟨Q,.inr (.inr rfl)⟩
     .split at hh
      .rename_i e;subst e;cases hh;exact⟨hHs,.inr (.inl rfl)⟩
      .exact⟨(hU _ _ hh).2,.inl (hU _ _ hh).1⟩
    have hRr:Rel E.P β Hr w:=⟨hR.base,λid m x h1 h2=>hR.blk id m x (j _ _ h1).1 h2,λid id' m bl' x x' h1 h2 h3 h4 e=>hR.inj _ _ _ _ _ _ (j _ _ h1).1 h2 (j _ _ h3).1 h4 e,hR.bnd,
     λid m h1=>hR.live _ _ (j _ _ h1).1⟩
    obtain⟨b,cap,ex,H1,q1,o0,o1,o2,o3,o4,o5,o6⟩:=cd hp;have hw:WFs β [.slice s.b s.off s.len s.cap true,i,.slice d.b d.off d.len d.cap d.ex]:=⟨⟨hwa.1,hwa.2⟩,hwi,hwv,trivial⟩
    have hcall:=ZK hE hN hRec o1 hRr (H:=Hr) ⟨hG.at_,hG.next,hG.facts,hTab _ λid hid=>by show(M.set (M.set (jj E.tabs) s.b (.cells r.t r.n r.c)) d.b (.cells q.t q.n q.c)).get id=_;rw[dG c1,O I,O I],hG.alts⟩ hw
    have hce:K β [.slice s.b s.off s.len s.cap s.ex,i,.slice d.b d.off d.len d.cap d.ex]=K β [.slice s.b s.off s.len s.cap true,i,.slice d.b d.off d.len d.cap d.ex]:=by
     simp[K,J,hex,hbex,hext]
    rw[hce];refine hcall.mono λx w' hx=>?_;obtain⟨β1,rfl,k1,k2,k3⟩:=hx;refine CV hE hR hwa.1 hwv.1 hHs Q (βr:=β) (Hr:=Hr) hs60 hv60 (λ_ _=>rfl) o0 ?_ (Lh _) k2 k3 hts k1 o2 o3 o4 o5 o6 d3;rintro c ⟨id,m,z,h0,h1,h2,rfl⟩;rcases(j _ _ h1).2 with hlt|rfl|rfl
    .omega
    .rw[hys]at h2;cases h2;exact .inl hbs.symm
    .rw[hyv]at h2;cases h2;exact .inr hbv.symm
   | succ e=>
    have hfr:=hR.fresh (Lh H.next);let β2:Inj:=β.put H.next (ys.1,ys.2.1,e);have u:β.le β2:=Inj.yL hfr;have hne:H.next≠d.b:=by omega
    let Hr:Heap:=⟨M.set (M.set (jj E.tabs) H.next (.cells r.t (Nat.add r.n sz) r.c)) d.b (.cells q.t q.n q.c),Nat.succ H.next⟩
    have j:∀id m,Hr.blk.get id=some m->(id=d.b/\m = .cells q.t q.n q.c)\/(id=H.next/\m = .cells r.t (Nat.add r.n sz) r.c)\/(id<100/\H.blk.get id=some m):=by
     intro id m hh;replace hh:(M.set (M.set (jj E.tabs) H.next (.cells r.t (Nat.add r.n sz) r.c)) d.b (.cells q.t q.n q.c)).get id=some m:=hh;rw[dG hne]at hh;split at hh
     .rename_i e';subst e';cases hh;exact .inl ⟨rfl,rfl⟩
     .split at hh
      .rename_i e';subst e';cases hh;exact .inr (.inl ⟨rfl,rfl⟩)
      .exact .inr (.inr (hU _ _ hh))
    have h2v:β2 d.b=some yv:=(Inj.qw β _ (show d.b≠H.next by omega)).trans hyv;have h2n:β2 H.next=some (ys.1,ys.2.1,e):=Inj.zS _ _ _;have hyne:ys.1≠yv.1:=λe'=>c1 (hR.QV (.inl hs60) hHs hys Q hyv e');obtain⟨arr,fz,a1,a2⟩:=hR.blk _ _ _ hHs hys
    have hRr:Rel E.P β2 Hr w:=by
     refine⟨le_succ_of_le hR.base,?_,?_,?_,?_⟩
     .intro id m x h1 h2;rcases j _ _ h1 with⟨rfl,rfl⟩|⟨rfl,rfl⟩|⟨hlt,hold⟩
      .rw[h2v]at h2;cases h2;exact(hR.blk _ _ _ Q hyv).mono u
      .rw[h2n]at h2;cases h2;have a3:=a2.mono u;refine⟨arr,fz,a1,?_,a3.cell,a3.thaw,a3.al⟩;have hz:=a2.size;rw[hts,hext]at hz;rw[hts];show ys.2.1+(r.n+sz)+e*sz<=arr.size;rw[succ_mul]at hz;omega
      .rw[show β2 id=β id from Inj.qw _ _ (by have:=hR.base;omega)]at h2;exact(hR.blk _ _ _ hold h2).mono u
     .intro id id' m bl' x x' h1 h2 h3 h4 e';have hb60:=hR.base;rcases j _ _ h1 with⟨rfl,rfl⟩|⟨rfl,rfl⟩|⟨l1,o1⟩<;>rcases j _ _ h3 with⟨rfl,rfl⟩|⟨rfl,rfl⟩|⟨l2,o2⟩
      .exact .inl rfl
      .rw[h2v]at h2;rw[h2n]at h4;cases h2;cases h4;exact Ld e'.symm hyne
      .rw[h2v]at h2;rw[show β2 id'=β id' from Inj.qw _ _ I]at h4;cases h2;exact hR.inj _ _ _ _ _ _ Q hyv o2 h4 e'
      .rw[h2n]at h2;rw[h2v]at h4;cases h2;cases h4;exact Ld e' hyne
      .exact .inl rfl
      .rw[h2n]at h2;rw[show β2 id'=β id' from Inj.qw _ _ I]at h4;cases h2;have:=hR.QV (.inl hs60) hHs hys o2 h4 e';omega
      .rw[h2v]at h4;rw[show β2 id=β id from Inj.qw _ _ I]at h2;cases h4;exact hR.inj _ _ _ _ _ _ o1 h2 Q hyv e'
      .rw[h2n]at h4;rw[show β2 id=β id from Inj.qw _ _ I]at h2;cases h4;have:=hR.QV (.inr hs60) o1 h2 hHs hys e';omega
      .rw[show β2 id=β id from Inj.qw _ _ I]at h2;rw[show β2 id'=β id' from Inj.qw _ _ I]at h4;exact hR.inj _ _ _ _ _ _ o1 h2 o2 h4 e'
     .intro id x h1;show id<H.next+1;by_cases hid:id=H.next
      .omega
      .have:=hR.bnd id x (by rwa[show β2 id=β id from Inj.qw _ _ hid]at h1);omega
     .intro id m h1;show id<H.next+1;have:=hR.base;rcases j _ _ h1 with⟨rfl,_⟩|⟨rfl,_⟩|⟨_,_⟩<;>omega
    have hG2:YE E β2 Hr:=⟨λg hg=>(Inj.qw β _ (show g≠H.next by have:=hG.next;omega)).trans (hG.at_ g hg),le_succ_of_le hG.next,hG.facts.mono u,hTab _ λid hid=>by have:=hG.next;show(M.set (M.set (jj E.tabs) H.next (.cells r.t (Nat.add r.n sz) r.c)) d.b (.cells q.t q.n q.c)).get id=_;rw[dG hne,O I,O I],hG.alts.mono u⟩
    obtain⟨b,cap,ex,H1,q1,o0,o1,o2,o3,o4,o5,o6⟩:=cd hp2;obtain⟨wi1,wi2⟩:=WF.mono u i hwi;obtain⟨wv1,wv2⟩:=WF.mono u _ hwv;have hw:WFs β2 [.slice H.next s.off s.len (Nat.succ s.cap) false,i,.slice d.b d.off d.len d.cap d.ex]:=⟨⟨by rw[h2n];rfl,le_succ_of_le hwa.2⟩,wi1,wv1,trivial⟩
    have hcall:=ZK hE hN hRec o1 hRr (H:=Hr) hG2 hw
    have hce:K β [.slice s.b s.off s.len s.cap s.ex,i,.slice d.b d.off d.len d.cap d.ex]=K β2 [.slice H.next s.off s.len (Nat.succ s.cap) false,i,.slice d.b d.off d.len d.cap d.ex]:=by
     simp only[K];rw[wi2,wv2];congr 1;simp only[J,hex,Ai,LY,Inj.addr,Inj.blk,Inj.sh,Inj.ext,hys,h2n,LW,hext];congr 1;omega
    rw[hce];refine hcall.mono λx w' hx=>?_;obtain⟨β1,rfl,k1,k2,k3⟩:=hx;refine CV hE hR hwa.1 hwv.1 hHs Q (βr:=β2) (Hr:=Hr) hs60 hv60 (λid hid=>Inj.qw _ _ I) o0 ?_ (le_succ _) k2 k3 hts k1 o2 o3 o4 o5 o6 d3;rintro c ⟨id,m,z,h0,h1,h2,rfl⟩;rcases j _ _ h1 with⟨rfl,_⟩|⟨rfl,_⟩|⟨hlt,_⟩
    .rw[h2v]at h2;cases h2;exact .inr hbv.symm
    .rw[h2n]at h2;cases h2;exact .inl hbs.symm
    .omega
structure FitA(E:Env):Prop where
 env:yF E
 count:XK E.P
 spec:pP E
 mixed:E.P.follows .mixedOrders=true
structure Fit(E:Env):Prop extends FitA E where
 noAlts:E.alts = .nil
omit hE in
theorem FitA.plus(hF:FitA E)(l:List Fact):FitA (E.plus l):=⟨⟨hF.env.types,hF.env.funcs⟩,hF.count,hF.spec,hF.mixed⟩
omit hE in
theorem zdj(hF:FitA E):∀n,WR E (kh E n):=by
 intro n
 induction n with
 | zero=>intro fr c T H β w b a k cs B it hit hA;trivial
 | succ n ih=>
  intro fr c;have hI:=NW hF.env hF.count ih;have hO:=MB hF.env hF.count hF.spec ih hI;refine uW hO (De hF.env hF.mixed hO) (th hF.env hF.count ih) ih (Hq λf=>?_) fr c;have hf:=hF.plus f;have h0:WR (E.plus f) Z1:=λ_ _ _ _ _ _ _ _ _ _ _ _ _ _=>trivial;have hO':=MB hf.env hf.count hf.spec h0 (NW hf.env hf.count h0);exact⟨hO',De hf.env hf.mixed hO',th hf.env hf.count h0⟩
omit hE in
theorem pD(hF:FitA E){args:List G}(h:qL E (kh E fuel) f args H=some (v,H')){β:Inj}(hR:Rel E.P β H w)(hG:YE E β H)(hargs:WFs β args) :
  Calls E.P f (K β args).toArray w λe w2=>∃x,e = .returned x/\RR E.P β H w v H' x w2:=
 (iq hF.env (zdj hF fuel) h hR hG hargs).2
end
end
section
variable[Unk]
noncomputable section
def VN{α:Type}(p:α->Bool)(t:M α):Bool:=M.rec true (λ_ v _ l r=>L (Z v true p) (L l r)) t
def isLit(v:G):Bool:=match v with|.int _ _=>true|.bool _=>true|.str _=>true|.nilp=>true|.nilslice=>true|.nilmap=>true|.nilfn=>true|.niliface=>true|_=>false
def zgi(v:G):Bool:=match v with|.tuple l=>Jb isLit l|v=>isLit v
def tH(v:G):Bool:=match v with|.sym i=>Nat.blt i 100|v=>isLit v
def UN(b:X):Bool:=match b with|.cells _ _ c=>VN tH c|.text _ v=>tH v|.ints _ v=>tH v|.view c=>VN tH c|_=>false
def zP(l:List (Nat×X)):Bool:=List.rec true (λp l ih=>L (L (Nat.blt p.1 100) (L (UN p.2) (Z ((jj l).get p.1) true λ_=>false))) ih) l
def vI(t:M X)(lo hi:Nat)(rows:List (Nat×X)):Bool:=
 List.rec true (λp _ ih=>L (L (Nat.ble lo p.1) (Nat.blt p.1 hi)) (L (Z (t.get p.1) false λb=>Q0 b p.2) ih)) rows
def jt(E:Env)(N:Nat):Heap:=⟨jj E.tabs,N⟩
def JT(E:Env)(fuel:Nat)(f:Eu)(args:List G)(N:Nat)(v:G):Bool:=
 Z (qL E (kh E fuel) f args (jt E N)) false λp=>L (qF p.1 v) (zgi v)
def dN(E:Env)(fuel:Nat)(f:Eu)(args:List G)(N n:Nat)(rows:List (Nat×X))(v:G):Bool:=
 Z (qL E (kh E fuel) f args (jt E N)) false λp=>L (qF p.1 v) (L (Nat.beq p.2.next (Nat.add N n)) (vI p.2.blk N (Nat.add N n) rows))
end
def eT{f:Type}(p:f->Bool):∀(q:Pa) (t:M f),VN p t=true->∀v,Yq q t=some v->p v=true:=by
 intro q
 induction q with
 | e=>intro t h v hv;cases t with
  | nil=>cases hv
  | node l a r=>
   have h:L (Z a true p) (L (VN p l) (VN p r))=true:=h;rw[V2]at hv;subst hv;rw[zl,Le]at h
   exact h.1
 | o q d=>intro t h v hv;cases t with
  | nil=>cases hv
  | node l a r=>
   have h:L (Z a true p) (L (VN p l) (VN p r))=true:=h;rw[zl,zl,Le,Le]at h
   exact d l h.2.1 v hv
 | i q d=>intro t h v hv;cases t with
  | nil=>cases hv
  | node l a r=>
   have h:L (Z a true p) (L (VN p l) (VN p r))=true:=h;rw[zl,zl,Le,Le]at h;exact d r h.2.2 v hv
def fL{β β':Inj}(h:isLit v=true)(hw:WF β v):WF β' v/\J β' v=J β v:=by
 cases v<;>first|(cases h;done)|exact⟨trivial,rfl⟩|exact⟨hw,rfl⟩
def Tv{β β':Inj}(h:zgi v=true)(hw:WF β v):WF β' v/\J β' v=J β v:=by
 have key:∀l:List G,Jb isLit l=true->WFs β l->WFs β' l/\K β' l=K β l:=by
  intro l
  induction l with
  | nil=>intro _ _;exact⟨trivial,rfl⟩
  | cons a l k=>
   intro h hw;have h:ifB (isLit a) (Jb isLit l) false=true:=h;rw[zo]at h;split at h
   .rename_i ha;obtain⟨f,d⟩:=fL (β':=β') ha hw.1;obtain⟨n,m⟩:=k h hw.2;exact⟨⟨f,n⟩,by rw[K,K,d,m]⟩
   .cases h
 cases v
 case tuple l=>
  obtain⟨f,d⟩:=key l h hw;exact⟨f,by rw[J,J,d]⟩
 all_goals exact fL h hw
def UC{d β':Inj}(f:∀g,g<100->d g=some (Unk.place g))(a:∀g,g<100->β' g=some (Unk.place g))(h:tH v=true)(hw:WF d v):WF β' v/\J β' v=J d v:=by
 cases v
 case sym i=>
  have hi:i<100:=by
   have h:Nat.blt i 100=true:=h;rwa[zW,Lk]at h
  exact⟨by simp[WF,a i hi],by simp only[J,f i hi,a i hi]⟩
 all_goals exact fL h hw
def Kn{r β':Inj}(k:∀g,g<100->r g=some (Unk.place g))(a:∀g,g<100->β' g=some (Unk.place g)){b:X}(h:UN b=true)(hb:zO P r b x w):zO P β' b x w:=by
 cases b with
 | cells t n c=>
  obtain⟨arr,fz,h1,h2⟩:=hb;refine⟨arr,fz,h1,h2.size,λi v hv=>?_,h2.thaw,h2.al⟩;obtain⟨m,l⟩:=h2.cell i v hv;obtain⟨f,d⟩:=UC k a (eT _ _ _ h v hv) m
  exact⟨f,by rw[d];exact l⟩
 | map _ _=>cases h
 | loop _ _ _ _ _ _ _ _=>cases h
 | siter _ _=>cases h
 | text t v=>
  obtain⟨arr,fz,h1,h2⟩:=hb;obtain⟨f,d⟩:=UC k a h h2.wf
  exact⟨arr,fz,h1,f,by rw[d];exact h2.is,h2.size,by rw[d];exact h2.cell,h2.thaw,h2.one⟩
 | pack _ _ _=>cases h
 | view c=>
  obtain⟨arr,t,fz,h1,h2⟩:=hb;refine⟨arr,t,fz,h1,λi v hv=>?_⟩;obtain⟨m,l⟩:=h2 i v hv;obtain⟨f,d⟩:=UC k a (eT _ _ _ h v hv) m
  exact⟨f,by rw[d];exact l⟩
 | ints t v=>
  obtain⟨arr,fz,h1,h2⟩:=hb;obtain⟨f,d⟩:=UC k a h h2.wf;exact⟨arr,fz,h1,f,by rw[d];exact h2.is,h2.size,by rw[d];exact h2.cell,h2.thaw,h2.one⟩
def qu:∀ {l:List (Nat×X)},zP l=true->∀p∈l,p.1<100/\UN p.2=true/\(jj l).get p.1=some p.2:=by
 intro l
 induction l with
 | nil=>intro _ p hp;cases hp
 | cons q l d=>
  intro h p hp;have h:L (L (Nat.blt q.1 100) (L (UN q.2) (Z ((jj l).get q.1) true λ_=>false))) (zP l)=true:=h;simp only[zl,Le,zW,Lk]at h;obtain⟨⟨h1,h2,h3⟩,f⟩:=h;rw[show jj (q::l)=(jj l).set q.1 q.2 from rfl,M.zN];rcases Lf.1 hp with rfl|hp
  .exact⟨h1,h2,by rw[Y rfl]⟩
  .obtain⟨m,k,a⟩:=d f p hp;refine⟨m,k,?_⟩;rw[O]
   .exact a
   .intro e;rw[e,a]at h3;cases h3
def xR{a b:X}(h:Q0 a b=true):(yC b).isNone=true:=by
 cases a<;>cases b<;>first|rfl|cases h
def Fu{t:M X}{lo hi:Nat}:∀ {rows:List (Nat×X)},vI t lo hi rows=true->∀p∈rows,lo<=p.1/\p.1<hi/\(yC p.2).isNone=true/\t.get p.1=some p.2:=by
 intro rows
 induction rows with
 | nil=>intro _ p hp;cases hp
 | cons q rows a=>
  intro h p hp;have h:L (L (Nat.ble lo q.1) (Nat.blt q.1 hi)) (L (Z (t.get q.1) false λb=>Q0 b q.2) (vI t lo hi rows))=true:=h;simp only[zl,Le,zK,zW,Lk]at h;obtain⟨⟨h1,h2⟩,h3,d⟩:=h;rcases Lf.1 hp with rfl|hp
  .cases hg:t.get p.1 with
   | none=>rw[hg]at h3;cases h3
   | some b=>
    rw[hg,ze]at h3;exact⟨h1,h2,xR h3,by rw[QZ h3]⟩
  .exact a d p hp
def zQ(σ:Inj):Inj:=λid=>if id<100 then some (Unk.place id) else σ id
section
variable{E:Env}(hF:Fit E){σ:Inj}{N:Nat}(h60:100<=N)(hσ:∀id x,σ id=some x->id<N)(hfacts:zJ E (zQ σ))(hcl:zP E.tabs=true)
include h60 hσ hfacts hcl hF
omit hfacts hF in
theorem lx(hw:ql E.P E.tabs w):Rel E.P (zQ σ) (jt E N) w:=by
 obtain⟨β1,hβ1,h1⟩:=hw
 have mem:∀id b,(jt E N).blk.get id=some b->id<100/\UN b=true/\zO E.P β1 b (Unk.place id) w:=λid b hb=>by
  have:=kK _ _ _ hb;obtain⟨c1,c2,_⟩:=qu hcl _ this;exact⟨c1,c2,h1 _ this⟩
 refine⟨h60,?_,?_,?_,?_⟩
 .intro id b x hb hx;obtain⟨c1,c2,c3⟩:=mem id b hb;unfold zQ at hx;rw[Y c1]at hx;cases hx;exact Kn hβ1 (λg hg=>by unfold zQ;rw[Y hg]) c2 c3
 .intro i j b c x y hb hx hc hy e;have c1:=(mem i b hb).1;have d1:=(mem j c hc).1;unfold zQ at hx hy;rw[Y c1]at hx;exact .inr ⟨c1,d1⟩
 .intro id x hx;show id<N;unfold zQ at hx;split at hx
  .omega
  .exact hσ id x hx
 .intro id b hb;have:=(mem id b hb).1;show id<N;omega
omit hF hσ in
theorem vx(hA:YF E (zQ σ)):YE E (zQ σ) (jt E N) where
 at_:=λg hg=>by unfold zQ;rw[Y hg]
 next:=h60
 facts:=hfacts
 tabs:=λp hp=>⟨(qu hcl p hp).1,(qu hcl p hp).2.2⟩
 alts:=hA
theorem jC{args:List G}(h:qL E (kh E fuel) f args (jt E N)=some (r,H'))(a:WFs (zQ σ) args)(hw:ql E.P E.tabs w) :
  Calls E.P f (K (zQ σ) args).toArray w λe w2=>Grown w w2/\∃γ,e = .returned (J γ r)/\WF γ r/\(∀id,id<N->γ id=zQ σ id)/\Rel E.P γ H' w2/\(∀id x,N<=id->γ id=some x->w.heap.size<=x.1):=by
 have hR:=lx h60 hσ hcl hw;have l:=vx h60 hfacts hcl (Vv hF.noAlts);refine(pD hF.toFitA h hR l a).mono λe w2 hx=>?_;obtain⟨x,rfl,γ,rfl,n,m,d⟩:=hx
 have k:∀c,¬Range (zQ σ) (jt E N) c:=by
  rintro c ⟨id,b,x,t,hb,_⟩
  have:=(qu hcl _ (kK _ _ _ hb)).1;omega
 refine⟨⟨λc hc=>d.frame c hc (k c),d.size,d.tape,d.os,d.output⟩,γ,rfl,n,λid hid=>d.old id hid,m,λid x hid hx=>?_⟩;rcases d.new id x hid hx with h|h
 .exact h
 .exact Ld h (k _)
theorem kv{args:List G}(h:JT E fuel f args N v=true)(a:WFs (zQ σ) args)(hw:ql E.P E.tabs w) :
  Calls E.P f (K (zQ σ) args).toArray w λe w2=>Grown w w2/\e = .returned (J (zQ σ) v)/\WF (zQ σ) v:=by
 unfold JT at h
 cases d:qL E (kh E fuel) f args (jt E N) with
 | none=>rw[d]at h;cases h
 | some p=>
  rw[d,ze,zl,Le]at h;have hv:=zV _ _ h.1;refine(jC hF h60 hσ hfacts hcl (r:=p.1) (H':=p.2) d a hw).mono λe w2 hx=>?_;obtain⟨hg,n,rfl,k,_⟩:=hx;rw[hv]at k ⊢;obtain⟨m,l⟩:=Tv (β':=zQ σ) h.2 k;exact⟨hg,by rw[l],m⟩
theorem Gw{args:List G}(h:JT E fuel f args N v=true)(a:WFs (zQ σ) args)(hw:WF (zQ σ) v) :
  zu E.P E.tabs (zQ σ) (.call f args v):=
 ⟨a,hw,λ_ d=>(kv hF h60 hσ hfacts hcl h a d).mono λ_ _ hx=>⟨hx.2.1,hx.1⟩⟩
theorem mK{args:List G}{rows:List (Nat×X)}(h:dN E fuel f args N n rows v=true)(d:WFs (zQ σ) args) :
  zu E.P E.tabs (zQ σ) (.make f args N n rows v):=by
 unfold dN at h
 cases l:qL E (kh E fuel) f args (jt E N) with
 | none=>rw[l]at h;cases h
 | some p=>
  rw[l,ze]at h;simp only[zl,Le,zA,Ll]at h;obtain⟨h1,h2,h3⟩:=h;have hv:=zV _ _ h1;have a:=Fu h3;have h2:p.2.next=N+n:=h2;refine⟨d,λq hq=>⟨(a q hq).1,(a q hq).2.1,(a q hq).2.2.1⟩,λw k=>?_⟩;refine(jC hF h60 hσ hfacts hcl (r:=p.1) (H':=p.2) l d k).mono λe w2 hx=>?_;obtain⟨hg,u,rfl,z,T,t,Q⟩:=hx;rw[hv]at z ⊢;refine⟨hg,u,rfl,z,⟨λid hid x hx=>by rw[<- T id hid];exact hx,λid hid=>?_,Q,λq hq x hx=>t.blk q.1 q.2 x (a q hq).2.2.2 hx,λq hq H m x y hx hy e=>t.QV (.inl (Lj h60 (a q hq).1)) (a q hq).2.2.2 hx (a H m).2.2.2 hy e⟩⟩
  cases hγ:u id with
  | none=>rfl
  | some x=>have:=t.bnd id x hγ;omega
end
end
section
def ZB{a b:Bool}(h:a=true)(k:b=true):(a&&b)=true:=by rw[h,k];rfl
def Fm:∀(l:List (FuncId×Spec)) (t:M Spec) (f:Eu) (s:Spec),(l.foldl (λt p=>t.set p.1 p.2) t).get f=some s->t.get f=some s\/(f,s)∈l:=by
 intro l
 induction l with
 | nil=>intro t f s h;exact .inl h
 | cons p l a=>
  intro t f s h;rcases a _ _ _ h with h|h
  .rw[M.zN]at h;by_cases hp:p.1=f
   .rw[Y hp]at h;cases h;subst hp;exact .inr LG
   .rw[O hp]at h;exact .inl h
  .exact .inr (LP _ h)
def DG(P:Ef)(f:Eu)(s:Spec):Prop:=
 match s with
 | .mapsClone=>Qb P f Extern.MapsClone.clone
 | .indexByte=>Qb P f Extern.BytealgIndexByte.indexByte
 | .makeNoZero e=>∃ps t,Qb P f (Extern.BytealgMakeNoZero.makeNoZero ps #[t])/\P.underlying t=some (.slice e)/\qS P e=1
 | .same=>Qb P f Extern.AbiNoEscape.same
 | .insert=>True
 | .compare=>Qb P f Extern.BytealgCompare.compare
 | .count=>Qb P f Extern.BytealgCount.count
 | .fact=>True
def fp (P:Ef):Bool:=P.funcs.toList.all λfn=>!(fn.name == "runtime.NumGoroutine")
def QA[Unk]{specs:List (FuncId×Spec)}{facts:List Fact}{tabs:List (Nat×X)}(hn:fp P=true)(hm:P.follows .mixedOrders=true)(hs:∀p∈specs,DG P p.1 p.2):Fit (Qm P specs facts tabs) where
 env:=M8 P specs facts tabs
 noAlts:=rfl
 count:=λf fn h=>by
  have h:P.funcs[f]?=some fn:=h;rw[<- LV]at h;simpa using Ad.1 hn fn (LX h)
 spec:=λf s h=>by
  rcases Fm specs _ f s h with h|h
  .rw[M.get_nil]at h;cases h
  .have:=hs _ h;cases s<;>exact this
 mixed:=hm
def QO{W:Ea}{t e:Eg}{zs:List Int}{cs:Ec}{p:List MemPlace}(f:P.underlying t=some (.array n e))(he:P.underlying e=some (.int k))(hc:P.cellsOf e=1)
  (h:DataW.trod (λ_=>()) P W 0 (λ_=>true) false fuel t cs=some (.agg (zs.map λz=>.lit (.int k z)),p)) (hz:zs.length=n):∀(r:Nat) (z:Int),zs[r]?=some z->cs[r]?=some (Value.int k z):=by
 intro r z d;have a:r<n:=by rw[<- hz];exact(LL.1 d).1
 obtain⟨xs,m,_,ex,_,hl,b⟩:=DataW.trod_array f h;have hE:=b r a;rw[hc,Ak,Ly I]at hE;obtain⟨y,l,j,_⟩:=DataW.trod_int he hE;have i:(xs.map (·.1))=zs.map λz=>.lit (.int k z):=(DataW.agg.inj (Prod.mk.inj ex).1).symm;have c:(xs.map (·.1))[r]?=(zs.map λz=>(DataW.lit (.int k z):DataW Unit))[r]?:=by rw[i]
 rw[Lw,Lw,Ly (by omega:r<xs.length),d,j]at c;simp only[Ac,Ag,DataW.lit.injEq,Lit.int.injEq,true_and]at c;subst c;have g:((cs.drop r).take 1)[0]?=some (.int k y):=by rw[l];rfl
 simpa using g
def ni[Unk]{W:Ea}{g:Nat}{zs:List Int}{β:Inj}{cs:Eh}{name:String}(b:W.ShapedOpen P)(j:g<P.globals.size)
  (h0:(((begin P (λ_ _=>0) default).world.heap[g]?).bind Obj.row?).map (λp=>(p.1.size,p.2))=some (n,t)) (hn:P.globalNamed name=some g) (hv:W.var? P name=some cs)
  (hcs:∀(r:Nat) (z:Int),zs[r]?=some z->cs.toList[r]?=some (Value.int k z)) (hz:zs.length=n) :
  zO P β (.cells t n (M.ofList (zs.map λz=>.int k z))) (g,0,0) W:=by
 obtain⟨⟨zero,d⟩,l,e⟩:=LU.1 h0;simp only[Prod.mk.injEq]at e;obtain⟨rfl,rfl⟩:=e;obtain⟨arr,f,m,_⟩:=b.1 g zero d j l
 have c:cs=arr:=by
  simp only[World.var?,hn,bind_some,f]at hv;exact(Aa hv).symm
 subst c;refine⟨cs,(0,0),f,⟨?_,λi v hi=>?_,λi _ h=>I,Nat.dvd_zero _⟩⟩
 .show 0+zero.size+0*qS P d<=cs.size;omega
 .rw[M.qy,Lw]at hi;obtain⟨z,a,rfl⟩:=LU.1 hi;refine⟨trivial,?_⟩;show cs[0+i]?=_;rw[Lz,<- LV];exact hcs i z a
def Grown.kept{W:Ea}(h:Grown W w)(may:MemPlace->Prop):W.keptBut w may:=by
 refine⟨h.os,h.output,λi hi=>?_⟩;rw[h.old i hi]
 cases W.heap[i]? with
 | none=>simp
 | some o=>
  cases o<;>simp
variable{H:Type}{enc:TypeId×Value->H}{P:Ef}
def eL{a:Assume}{C:Checked}{os:Os}{fn:Func}{s:ChangeSpec}{conds:List PathCond}{apart fresh again:Bool}{X:World->Array Value->Prop}
  (hX:∀(w w':Ea) (args:Eh),w.heap=w'.heap->X w args->X w' args)
  (own:ownKnob C.prog.godebug=none) (started:os.Started) (noInit:C.prog.inits.idxOf? f=none) (hfn:C.prog.funcs[f]?=some fn)
  (witness:∃(w:Ea) (tape:Tape) (i:Input),w.os=os/\(w.forCall tape i).Shaped C.prog/\i.vars=[]/\Input.okWide C.prog (w.forCall tape i) .any w.heap.size f i /\
   ((s.pre enc C.prog fn conds apart (w.forCall tape i).memory i.args/\X (w.forCall tape i).memory i.args)/\sizedMet enc C.prog fn (OpenSpec.ofChange s) apart (w.forCall tape i).memory i.args)/\a.holds C.prog (lone (Frame.enter C.prog f i.args .normal) [] (w.forCall tape i)))
  (contract:∀(W:Ea) (base:Nat) (args:Eh) (g gs:List (DataW H)) (before:List MemPlace),
   (∀(j:Nat) t v,fn.params[j]?=some t->args[j]?=some v->Value.okWide C.prog W .any base t v) ->
   DataW.Whole enc C.prog fn.params.toList s.vars apart W args.toList g gs before ->
   conds.all (PathCond.test C.prog ⟨fn.params.toList,g,s.plain.varTypes C.prog,gs⟩)=true ->
   X W args->W.ShapedOpen C.prog ->
   Calls C.prog f args W λe n=>∃v,e = .returned v/\s.post enc C.prog fn apart fresh handsOn again W args v n) :
  ReturnsInHanded a C os f .any (λw args=>(s.pre enc C.prog fn conds apart w args/\X w args)/\sizedMet enc C.prog fn (OpenSpec.ofChange s) apart w args) (s.post enc C.prog fn apart fresh handsOn again):=by
 refine returnsInHanded_of_calls own started noInit witness ?_;intro w tape i _ k _ l c _;obtain⟨_,_,_,m,d,_,_,_,_,b⟩:=l;have e:m=fn:=Aa (d.symm.trans hfn);subst e;obtain⟨⟨⟨g,gs,before,hw,hc⟩,hx⟩,p⟩:=c;have h:=DataW.Whole.of_heap (w':=w.forCall tape i) (by rfl) hw;refine(contract (w.forCall tape i) w.heap.size i.args g gs before b h hc (hX _ _ _ (by rfl) hx) k).mono λe n ⟨v,he,hp⟩=>?_;subst he;exact ChangeSpec.post_blind hp
end
section
def Grown.below{W:Ea}(h:Grown W w):RowKit.Below W.heap.size W w:=⟨h.os,h.tape,h.output,h.size,λk a=>h.old k a⟩
variable{H:Type}{enc:TypeId×Value->H}{P:Ef}
def iD(hl:laidOutB P=true){W:Ea}(n:Grown W w):∀ {c:List TypeId}{f:Ec}{g:List (DataW H)}{e:List MemPlace},(∀t∈c,P.readableRec t=true/\t<P.types.size) ->
  DataW.TrodAll enc P W 0 (λ_=>true) true c f g e->(∀y∈e,y.block<W.heap.size)->DataW.TrodAll enc P w 0 (λb=>decide (b<W.heap.size)) true c f g e:=by
 intro c
 induction c with
 | nil=>
  intro f g e _ h _;obtain⟨rfl,rfl,rfl⟩:=trodAll_nil h
  exact trodAll_mk0
 | cons t c l=>
  intro f g e j h hp;obtain⟨v,k,d,r,p,q,rfl,rfl,rfl,h1,h2⟩:=trodAll_cons h;have a:=j t LG
  exact trodAll_cons_mk (RowKit.Below.trod hl a.1 a.2 h1 n.below λy i=>hp y (List.mem_append_left _ i))
   (l (λu m=>j u (LP _ m)) h2 λy i=>hp y (Ay _ i))
def eX(P:Ef)(ts:List TypeId):Bool:=ts.all λt=>P.readableRec t&&decide (t<P.types.size)
def FH{f:Func}{s:ChangeSpec}{apart fresh:Bool}{W:Ea}{args:Eh}{a gs:List (DataW H)}{before:List MemPlace}{tb:Eg}
  (hl:laidOutB P=true) (hr:eX P f.params.toList=true) (hvars:s.vars=[]) (hres:f.resultTypes = #[tb]) (htb:P.underlying tb=some .bool)
  (hfn:∀a:List (DataW H),a.length=f.params.size->s.fn H a={ results:=[.lit (.bool true)],args:=a })
  (hW:DataW.Whole enc P f.params.toList s.vars apart W args.toList a gs before) (hg:Grown W w):s.post enc P f apart fresh handsOn false W args (.bool true) w:=by
 have g:=hW.lt;have i:=hW;obtain⟨p,q,k,j,rfl,_,_⟩:=hW;rw[hvars]at j;obtain⟨rfl,rfl⟩:=trodVars_none j
 have hlen:∀ {b:List TypeId}{c:Ec}{a:List (DataW H)}{d:List MemPlace}{sp:Nat->Bool},DataW.TrodAll enc P W 0 sp true b c a d->a.length=b.length:=by
  intro b
  induction b with
  | nil=>intro c a d sp h;obtain⟨_,rfl,_⟩:=trodAll_nil h;rfl
  | cons t b l=>intro c a d sp h;obtain⟨_,_,_,_,_,_,_,rfl,_,_,h2⟩:=trodAll_cons h;simp[l h2]
 have e:s.fn H (a++[])={ results:=[.lit (.bool true)],args:=a }:=by
  rw[AJ];exact hfn a (by rw[hlen k];simp)
 refine⟨a,[],_,[],p,[],i,?_,?_,?_,hg.kept _,λh=>by cases h⟩
 .rw[e,hres];exact trodAll_mk1 (RowKit.shut_bool htb true)
 .rw[e];refine iD hl hg (λt n=>?_) k λy m=>g y (List.mem_append_left _ m);have:=Ad.1 hr t n;simpa using this
 .rw[e,hvars];rfl
def cU{C:Checked}{os:Os}{fn:Func}{s:ChangeSpec}{laid:List (String×DataW Unit)}{tb:Eg}
  (own:ownKnob C.prog.godebug=none) (started:os.Started) (noInit:C.prog.inits.idxOf? f=none) (hfn:C.prog.funcs[f]?=some fn)
  (hl:laidOutB C.prog=true) (hr:eX C.prog fn.params.toList=true) (hvars:s.vars=[]) (hres:fn.resultTypes = #[tb]) (htb:C.prog.underlying tb=some .bool)
  (hsp:∀a:List (DataW H),a.length=fn.params.size->s.fn H a={ results:=[.lit (.bool true)],args:=a })
  (witness:∃(w:Ea) (tape:Tape) (i:Input),w.os=os/\(w.forCall tape i).Shaped C.prog/\i.vars=[]/\Input.okWide C.prog (w.forCall tape i) .any w.heap.size f i /\
   ((s.pre enc C.prog fn [] false (w.forCall tape i).memory i.args/\laidMetH C.prog laid (w.forCall tape i).memory)/\sizedMet enc C.prog fn (OpenSpec.ofChange s) false (w.forCall tape i).memory i.args)/\({}:Assume).holds C.prog (lone (Frame.enter C.prog f i.args .normal) [] (w.forCall tape i)))
  (calls:∀(W:Ea) (base:Nat) (args:Eh) (a:List (DataW H)) (l:List MemPlace),
   (∀(j:Nat) t v,fn.params[j]?=some t->args[j]?=some v->Value.okWide C.prog W .any base t v) ->
   DataW.TrodAll enc C.prog W 0 (λ_=>true) true fn.params.toList args.toList a l->laidMetH C.prog laid W->W.ShapedOpen C.prog ->
   Calls C.prog f args W λe k=>Grown W k/\e = .returned (.bool true)) :
  ReturnsInHanded {} C os f .any (λw args=>(s.pre enc C.prog fn [] false w args/\laidMetH C.prog laid w)/\sizedMet enc C.prog fn (OpenSpec.ofChange s) false w args) (s.post enc C.prog fn false true false false):=by
 refine eL (X:=λw _=>laidMetH C.prog laid w) (λ_ _ _ hh h=>h.of_heap hh) own started noInit hfn witness ?_;intro W base args a gs before b g _ n c;have d:=g;obtain⟨p,q,r,_⟩:=g;refine(calls W base args a p b r n c).mono λe k hx=>?_;obtain⟨m,rfl⟩:=hx;exact⟨_,rfl,FH hl hr hvars hres htb hsp d m⟩
end
section
variable[Unk]
noncomputable section
def vH(nx:Nat)(rin:List (Nat×X)):Bool:=List.rec true (λp _ ih=>L (L (Nat.ble 100 p.1) (Nat.blt p.1 nx)) ih) rin
def keptIn(t u:M X)(rin:List (Nat×X)):Bool:=List.rec true (λp _ ih=>L (Z (t.get p.1) true λ_=>Z (u.get p.1) false λ_=>true) ih) rin
def jD(E:Env)(nx:Nat)(rin:List (Nat×X)):Heap:=⟨qf rin (jj E.tabs),nx⟩
def pf(E:Env)(fuel:Nat)(f:Eu)(args:List G)(nx:Nat)(rin rout:List (Nat×X))(v:G)(n:Nat):Bool:=
 L (vH nx rin) (Z (qL E (kh E fuel) f args (jD E nx rin)) false λp=>
  L (qF p.1 v) (L (Nat.beq p.2.next n) (L (dF p.2.blk rout) (keptIn p.2.blk (qf rout .nil) rin))))
end
def eI{nx:Nat}:∀ {rin:List (Nat×X)},vH nx rin=true->∀p∈rin,100<=p.1/\p.1<nx
 | [],_,p,hp=>by cases hp
 | q::l,h,p,hp=>by
  have h:L (L (Nat.ble 100 q.1) (Nat.blt q.1 nx)) (vH nx l)=true:=h;simp only[zl,Le,zK,zW,Lk]at h;rcases Lf.1 hp with rfl|hp
  .exact h.1
  .exact eI h.2 p hp
def fG{t u:M X}:∀ {rin:List (Nat×X)},keptIn t u rin=true->∀p∈rin,t.get p.1=none\/∃b,u.get p.1=some b
 | [],_,p,hp=>by cases hp
 | q::l,h,p,hp=>by
  have h:L (Z (t.get q.1) true λ_=>Z (u.get q.1) false λ_=>true) (keptIn t u l)=true:=h;rw[zl,Le]at h;rcases Lf.1 hp with rfl|hp
  .cases h1:t.get p.1 with
   | none=>exact .inl rfl
   | some b=>
    cases h2:u.get p.1 with
    | none=>rw[h1,h2]at h;exact Ld h.1 Oc
    | some b=>exact .inr ⟨b,rfl⟩
  .exact fG h.2 p hp
def Vn{E:Env}(hF:Fit E){g:Inj}(hfacts:zJ E g)(hcl:zP E.tabs=true){args:List G}{rout:List (Nat×X)}
  (h:pf E fuel f args nx rin rout v n=true):zu E.P E.tabs g (.memo f args nx rin rout v n):=by
 unfold pf at h;rw[zl,Le]at h;obtain⟨j,h⟩:=h;have j:=eI j
 cases z:qL E (kh E fuel) f args (jD E nx rin) with
 | none=>rw[z]at h;cases h
 | some q=>
  rw[z,ze]at h;simp only[zl,Le,zA,Ll]at h;obtain⟨h1,h2,h3,h4⟩:=h;have hv:=zV _ _ h1;have h3:=Kg h3;have h4:=fG h4;intro β' H w hle hR hat c T t r;subst T
  have d:∀id b,(jD E H.next rin).blk.get id=some b->H.blk.get id=some b:=by
   intro id b hb;rcases kB rin _ id b hb with hm|⟨_,hm⟩
   .exact t _ hm
   .exact(c _ (kK _ _ _ hm)).2
  have hRi:Rel E.P β' (jD E H.next rin) w:=hR.part rfl d
  have hG:YE E β' (jD E H.next rin):=by
   refine⟨hat,hR.base,λf hf=>(hfacts f hf).mono hle,λp hp=>?_,Vv hF.noAlts⟩;obtain⟨a1,_,u⟩:=qu hcl p hp;refine⟨a1,?_⟩;show(qf rin (jj E.tabs)).get p.1=_;rw[Qv rin _ _ λp' Q e=>by have:=(j p' Q).1;omega];exact u
  refine(pD hF.toFitA z hRi hG r).mono λe w2 hx=>?_;obtain⟨x,rfl,γ,rfl,a1,a2,u⟩:=hx;refine⟨γ,by rw[hv],by rw[<- hv];exact a1,?_⟩
  have i:∀id,(∃b,(id,b)∈rout/\(ZV H rin rout n).blk.get id=some b)\/((∀p∈rout,p.1≠id)/\(ZV H rin rout n).blk.get id=(Yy rin H.blk).get id):=by
   intro id;by_cases hm:∃p∈rout,p.1=id
   .obtain⟨p,hp,rfl⟩:=hm;obtain⟨b,hb⟩:=aG rout (Yy rin H.blk) p hp;rcases kB rout _ _ _ hb with h|⟨h,_⟩
    .exact .inl ⟨b,h,hb⟩
    .exact Ld rfl (h p hp)
   .have hm:∀p∈rout,p.1≠id:=λp hp e=>hm ⟨p,hp,e⟩;exact .inr ⟨hm,Qv rout _ id hm⟩
  refine Rel.rest (Hi:=jD E H.next rin) (H':=ZV H rin rout n) hR rfl d a2 u h2.symm ?_ ?_ ?_
  .intro id hid l
   have k:∀p∈rin,p.1≠id:=by
    intro p hp e;obtain⟨b,hb⟩:=aG rin (jj E.tabs) p hp;rw[e]at hb;rw[show(jD E H.next rin).blk.get id=some b from hb]at l;cases l
   rcases i id with⟨b,hb,_⟩|⟨_,hb⟩
   .obtain⟨b',a⟩:=u.gone id b hid (h3 _ hb);rw[l]at a;cases a
   .rw[hb,XB rin _ id k]
  .intro id b hid hb;rcases i id with⟨b',a,m⟩|⟨hn,m⟩
   .rw[m,h3 _ a]
   .rw[m];rcases kB rin _ id b hb with hm|⟨k,hm⟩
    .rw[Vp rin H.blk (id,b) hm];rcases h4 _ hm with h5|⟨b',h5⟩
     .exact h5.symm
     .rcases kB rout _ _ _ h5 with y|⟨_,y⟩
      .exact Ld rfl (hn _ y)
      .rw[M.get_nil]at y;cases y
    .rw[XB rin _ id k,d id b hb];have h60:=(c _ (kK _ _ _ hm)).1;rw[u.ro id h60];exact hb.symm
  .intro id b hid hb;rcases i id with⟨b',a,m⟩|⟨_,m⟩
   .rw[m]at hb;cases hb;exact h3 _ a
   .rw[m]at hb;by_cases hm:∃p∈rin,p.1=id
    .obtain⟨p,hp,rfl⟩:=hm;rw[Vp rin H.blk p hp]at hb;cases hb
    .rw[XB rin _ id λp hp e=>hm ⟨p,hp,e⟩]at hb;have:=hR.live id b hb;omega
noncomputable section
def JM(l:List (Nat×X)):List Nat:=List.rec [] (λp _ ih=>p.1::ih) l
def Cr(N:Nat)(l:List (Nat×X)):Bool:=List.rec true (λp _ ih=>L (L (Nat.ble N p.1) (Z (yC p.2) true λ_=>false)) ih) l
def yT(E:Env)(fuel:Nat)(f:Eu)(N:Nat)(args:List G)(nx:Nat)(rin rout:List (Nat×X))(v:G)(n:Nat):Bool:=
 L (ZS (JM rin)) (L (ZS (JM rout)) (L (Cr N rout) (pf E fuel f args nx rin rout v n)))
end
def fF:∀ {l:List (Nat×X)}{p:Nat×X},p∈l->p.1∈JM l
 | q::l,p,h=>by
  rcases Lf.1 h with rfl|h
  .exact LG
  .exact LP _ (fF h)
def yM:∀ {l:List (Nat×X)},ZS (JM l)=true->∀t,∀p∈l,(qf l t).get p.1=some p.2
 | [],_,_,p,hp=>by cases hp
 | q::l,h,t,p,hp=>by
  have h:ifB (fw q.1 (JM l)) false (ZS (JM l))=true:=h;rw[zo]at h;split at h
  .cases h
  .rename_i hn;have hn:q.1 ∉ JM l:=λhm=>hn ((dw _ _).2 hm);have e:qf (q::l) t=(qf l t).set q.1 q.2:=rfl;rw[e,M.zN];rcases Lf.1 hp with a|a
   .rw[a,Y rfl]
   .have b:¬q.1=p.1:=λe=>hn (by rw[e];exact fF a);rw[O b];exact yM h t p a
def aL{N:Nat}:∀ {l:List (Nat×X)},Cr N l=true->∀p∈l,N<=p.1/\(yC p.2).isNone=true
 | [],_,p,hp=>by cases hp
 | q::l,h,p,hp=>by
  have h:L (L (Nat.ble N q.1) (Z (yC q.2) true λ_=>false)) (Cr N l)=true:=h;simp only[zl,Le,zK,Lk]at h;rcases Lf.1 hp with rfl|hp
  .refine⟨h.1.1,?_⟩;have h2:=h.1.2
   cases hl:yC p.2 with
   | none=>rfl
   | some x=>rw[hl]at h2;cases h2
  .exact aL h.2 p hp
def xm{E:Env}(hF:Fit E){β0 g:Inj}{N:Nat}(hfacts:zJ E β0)(hle:β0.le g)(hN:∀id,N<=id->β0 id=none)(b:zP E.tabs=true){a:List Seg}{args:List G}
  {rin rout:List (Nat×X)}{v:G}{n:Nat} (h:yT E fuel f N args nx rin rout v n=true):zu E.P E.tabs g (.memoG f N a args nx rin rout v n):=by
 unfold yT at h;simp only[zl,Le]at h;obtain⟨h1,h2,h3,e⟩:=h;refine⟨β0,hle,hN,Vn hF hfacts b e,yM h1,aL h3,yM h2,λp hp=>?_⟩;obtain⟨c1,c2,c3⟩:=qu b p hp;exact⟨λg β' x w hb c d=>Kn hb c c2 d,c3⟩
end
section
structure uZ(P:Ef)(k:Et)(t:Eg)(w w2:Ea)(s:Ee)(v:Ei)(x:Ej)(arr:Eh)(fz:Nat×Nat):Prop where
 is:v = .slice (some ⟨x.1,x.2.1,none⟩) s.size x.2.2
 new:w.heap.size<=x.1
 row:w2.heap[x.1]?=some (.cells arr t fz)
 cap:s.size<=x.2.2
 size:x.2.1+x.2.2<=arr.size
 cell:∀i (b:UInt8),s.data[i]?=some b->arr[x.2.1+i]?=some (.int k b.toNat)
 thaw:∀i,i<arr.size->¬(fz.1<=i/\i<fz.2)
 one:qS P t=1
def iz(P:Ef)(k:Et)(t:Eg)(w w2:Ea)(s:Ee)(v:Ei)(b:Nat):Prop:=∃x arr fz,x.1=b/\uZ P k t w w2 s v x arr fz
variable[Unk]
def uZ.text{t:Eg}{s:Ee}{v:Ei}{fz:Nat×Nat}(h:uZ P k t w w2 s v x arr fz){γ:Inj}{q:G}(hq:WF γ q)(hs:J γ q = .string s) :
  Qa P γ k t q x.2.1 x.2.2 arr fz:=
 ⟨hq,⟨s,hs,h.cap⟩,h.size,λi b hb=>h.cell i b (by rw[hs]at hb;exact hb),h.thaw,h.one⟩
def cn{γ:Inj}{l cp:Nat}{ex:Bool}{r:Row}{s:Ee}(hR:Rel P γ H' w2)(hb:H'.row b=some r)(h:(γ b).isSome)(a:∀x,γ b=some x->w.heap.size<=x.1)
  (h1:qS P r.t=1) (hc:cp<=r.n) (hl:l=s.size) (hlc:l<=cp) (hs:∀i (c:UInt8),s.data[i]?=some c->∃u,r.c.get i=some u/\J γ u = .int k c.toNat) :
  iz P k r.t w w2 s (J γ (.slice b 0 l cp ex)) (γ.blk b):=by
 obtain⟨x,hx⟩:=LM.1 h;obtain⟨p,d,ha⟩:=JG hb;obtain⟨arr,fz,h2,h3⟩:=(bE ha).1 (hR.blk b p x d hx);have e:γ.blk b=x.1:=by simp[Inj.blk,hx]
 have m:γ.sh b=x.2.1:=by simp[Inj.sh,hx]
 have j:γ.ext b=x.2.2:=by simp[Inj.ext,hx]
 have f:=h3.size;rw[h1,Ak]at f;refine⟨(x.1,x.2.1,if ex then cp else cp+x.2.2),arr,fz,e.symm,?_,a x hx,h2,?_,?_,?_,h3.thaw,h1⟩
 .simp[J,Inj.addr,e,m,j,hl]
 .show s.size<=if ex=true then cp else cp+x.2.2
  split<;>omega
 .show x.2.1+(if ex=true then cp else cp+x.2.2)<=arr.size;split<;>omega
 .intro i c hc;obtain⟨u,g,hv⟩:=hs i c hc;rw[<- hv];exact(h3.cell i u g).2
def Inj.upto(β:Inj)(N:Nat)(δ:Inj):Inj:=λid=>if id<N then β id else δ id
def upto_low{g a:Inj}{N id:Nat}(h:id<N):g.upto N a id=g id:=Y h
def upto_high{g a:Inj}{N id:Nat}(h:N<=id):g.upto N a id=a id:=O I
def Yt(N:Nat)(v:G):Bool:=match v with|.sym i=>decide (i<N)|.int _ _=>true|.bool _=>true|.str _=>true|.nilslice=>true|_=>false
def dx{β γ:Inj}{N:Nat}(a:∀id,id<N->γ id=β id)(h:Yt N v=true)(hw:WF β v):WF γ v/\J γ v=J β v:=by
 cases v
 case sym i=>
  have hi:i<N:=by simpa[Yt] using h
  simp only[WF,J,a i hi]at hw ⊢;exact⟨hw,trivial⟩
 all_goals first|(cases h;done)|exact⟨trivial,rfl⟩|exact⟨hw,rfl⟩
def mj{tabs:List (Nat×X)}{β:Inj}{args:List G}{N q:Nat}{t:Eg}{s:Ee}(ha:WFs β args)(hq:q<N)(hw:WF β (.sym q))(hs:J β (.sym q) = .string s)
  (hc:∀w,ql P tabs w->Calls P f (K β args).toArray w λe w2=>Grown w w2/\∃v b,e = .returned v/\iz P .u8 t w w2 s v b) :
  Qe P tabs β f args N 1 [(N,.text t (.sym q))] (.osl N (.sym q)):=by
 refine⟨ha,λp hp=>by rw[Lu]at hp;subst hp;exact⟨Lh _,lt_succ_self _,rfl⟩,λw g=>(hc w g).mono λe w2 hx=>?_⟩;obtain⟨h,v,b,rfl,x,arr,fz,rfl,hn⟩:=hx;refine⟨h,β.upto N λid=>if id=N then some x else none,?_⟩;have d:(β.upto N λid=>if id=N then some x else none) N=some x:=by rw[upto_high (Lh _),Y rfl]
 obtain⟨q1,q2⟩:=dx (β:=β) (γ:=β.upto N λid=>if id=N then some x else none) (N:=N) (λid hid=>upto_low hid) (v:=.sym q) (by simpa[Yt] using hq) hw;rw[hs]at q2;refine⟨?_,?_,?_⟩
 .rw[hn.is,J,q2];simp[sOf,Inj.addr,Inj.blk,Inj.sh,Inj.ext,d]
 .exact⟨by rw[d];rfl,q1,s,q2,by simp only[Inj.ext,d];exact hn.cap⟩
 .refine⟨λid hid y a=>by rw[upto_low hid]at a;exact a,λid hid=>by rw[upto_high I,O I],λid y hid a=>?_,λp hp y a=>?_,λp hp i c y y' _ _ _=>?_⟩
  .rw[upto_high hid]at a;split at a
   .cases a;exact hn.new
   .cases a
  .rw[Lu]at hp;subst hp;rw[d]at a;cases a;exact⟨arr,fz,hn.row,hn.text q1 q2⟩
  .rw[Lu]at hp c;subst hp;subst c;rfl
def S7(b:Nat)(q:Nat):Option ByteArray->G
 | none=>.nilslice
 | some _=>.osl b (.sym q)
def S8(t:Eg)(b:Nat)(q:Nat):Option ByteArray->List (Nat×X)
 | none=>[]
 | some _=>[(b,.ints t (.sym q))]
def aa(P:Ef)(k:Et)(t:Eg)(w w2:Ea)(b:Nat)(v:Ei):Option ByteArray->Prop
 | none=>v = .slice none 0 0
 | some s=>iz P k t w w2 s v b
def RQ(β:Inj)(q:Nat):Option ByteArray->Prop
 | none=>True
 | some s=>WF β (.sym q)/\J β (.sym q) = .string s
def Nc{tabs:List (Nat×X)}{β:Inj}{args:List G}{N q1 q2:Nat}{t:Eg}{o1 o2:En}{l1 l2:List G}(ha:WFs β args)(h1:q1<N)(h2:q2<N)(k1:RQ β q1 o1)(k2:RQ β q2 o2)
  (hl1:∀v∈l1,Yt N v=true) (hl2:∀v∈l2,Yt N v=true) (hw1:WFs β l1) (hw2:WFs β l2)
  (hc:∀w,ql P tabs w->Calls P f (K β args).toArray w λe w2=>Grown w w2/\∃v1 v2 b1 b2,b1≠b2/\e = .returned (.agg (K β l1++v1::v2::K β l2).toArray)/\aa P .i64 t w w2 b1 v1 o1/\aa P .i64 t w w2 b2 v2 o2) :
  Qe P tabs β f args N 2 (S8 t N q1 o1++S8 t (N+1) q2 o2) (.agg (l1++S7 N q1 o1::S7 (N+1) q2 o2::l2)):=by
 have g:∀p∈S8 t N q1 o1++S8 t (N+1) q2 o2,(p=(N,.ints t (.sym q1))/\o1.isSome)\/(p=(N+1,.ints t (.sym q2))/\o2.isSome):=by
  intro p hp;rcases LJ.1 hp with hp|hp
  .cases o1 with
   | none=>cases hp
   | some s=>exact .inl ⟨Lu.1 hp,rfl⟩
  .cases o2 with
   | none=>cases hp
   | some s=>exact .inr ⟨Lu.1 hp,rfl⟩
 refine⟨ha,λp hp=>?_,λw hwt=>(hc w hwt).mono λe w2 hx=>?_⟩
 .rcases g p hp with⟨rfl,_⟩|⟨rfl,_⟩
  .exact⟨Lh _,by show N<N+2;omega,rfl⟩
  .exact⟨by show N<=N+1;omega,by show N+1<N+2;omega,rfl⟩
 obtain⟨hg,v1,v2,b1,b2,T,rfl,Q,H⟩:=hx
 have pick:∀ {o:En}{v:Ei}{b:Nat},aa P .i64 t w w2 b v o->∃x:Nat×Nat×Nat,(o.isSome->x.1=b/\∃s arr fz,o=some s/\uZ P .i64 t w w2 s v x arr fz):=by
  intro o v b h
  cases o with
  | none=>exact⟨(0,0,0),λh=>by cases h⟩
  | some s=>
   obtain⟨x,arr,fz,e,h⟩:=h;exact⟨x,λ_=>⟨e,s,arr,fz,rfl,h⟩⟩
 obtain⟨x1,j⟩:=pick Q;obtain⟨x2,i⟩:=pick H;let γ:Inj:=β.upto N λid=>if id=N/\o1.isSome then some x1 else if id=N+1/\o2.isSome then some x2 else none
 have lo:∀id,id<N->γ id=β id:=λid hid=>upto_low hid
 have g1:o1.isSome->γ N=some x1:=λh=>by
  show β.upto N _ N=_;rw[upto_high (Lh _),Y ⟨rfl,h⟩]
 have g2:o2.isSome->γ (N+1)=some x2:=λh=>by
  show β.upto N _ (N+1)=_;rw[upto_high (le_succ _),O I,Y ⟨rfl,h⟩]
 have d:∀ {q:Nat}{o:En},q<N->RQ β q o->∀s,o=some s->WF γ (.sym q)/\J γ (.sym q) = .string s:=by
  intro q o hq hk s e;subst e;obtain⟨a,b⟩:=dx (β:=β) (γ:=γ) (N:=N) lo (v:=.sym q) (by simpa[Yt] using hq) hk.1;exact⟨a,b.trans hk.2⟩
 have val:∀ {o:En}{v:Ei}{b q id:Nat}{x:Ej},q<N->RQ β q o->aa P .i64 t w w2 b v o->(o.isSome->γ id=some x)->(o.isSome->x.1=b/\∃s arr fz,o=some s/\uZ P .i64 t w w2 s v x arr fz)->WF γ (S7 id q o)/\J γ (S7 id q o)=v:=by
  intro o v b q id x hq hk hs hg hx
  cases o with
  | none=>exact⟨trivial,hs.symm⟩
  | some s=>
   obtain⟨_,s',arr,fz,e,hn⟩:=hx rfl;cases e;obtain⟨z,u⟩:=d hq hk s rfl;have e:=hg rfl;refine⟨⟨by rw[e];rfl,z,s,u,by simp only[Inj.ext,e];exact hn.cap⟩,?_⟩;show J γ (.osl id (.sym q))=v;rw[hn.is,J,u];simp[sOf,Inj.addr,Inj.blk,Inj.sh,Inj.ext,e]
 obtain⟨c1,c2⟩:=val h1 k1 Q g1 j;obtain⟨d1,d2⟩:=val h2 k2 H g2 i
 have r:∀l:List G,(∀v∈l,Yt N v=true)->WFs β l->WFs γ l/\K γ l=K β l:=by
  intro l
  induction l with
  | nil=>intro _ _;exact⟨trivial,rfl⟩
  | cons a l ih=>
   intro h hw;obtain⟨z,u⟩:=dx (β:=β) (γ:=γ) lo (h a LG) hw.1;obtain⟨b1,b2⟩:=ih (λv hv=>h v (LP _ hv)) hw.2;exact⟨⟨z,b1⟩,by rw[K,K,u,b2]⟩
 obtain⟨e1,e2⟩:=r l1 hl1 hw1;obtain⟨f1,f2⟩:=r l2 hl2 hw2;refine⟨hg,γ,?_,?_,?_⟩
 .simp only[J];rw[Zd,e2,K,K,c2,d2,f2]
 .exact J0 e1 ⟨c1,d1,f1⟩
 .refine⟨λid hid y c=>by rw[lo id hid]at c;exact c,λid hid=>?_,λid y hid c=>?_,λp hp y c=>?_,λp hp p' hp' y y' c n e=>?_⟩
  .show β.upto N _ id=_;rw[upto_high I,O I,O I]
  .replace c:β.upto N _ id=some y:=c;rw[upto_high hid]at c;split at c
   .rename_i h;cases c;obtain⟨_,s,arr,fz,_,hn⟩:=j h.2;exact hn.new
   .split at c
    .rename_i h;cases c;obtain⟨_,s,arr,fz,_,hn⟩:=i h.2;exact hn.new
    .cases c
  .rcases g p hp with⟨rfl,m⟩|⟨rfl,m⟩
   .obtain⟨_,s,arr,fz,e,hn⟩:=j m;obtain⟨z,u⟩:=d h1 k1 s e;rw[g1 m]at c;cases c;exact⟨arr,fz,hn.row,hn.text z u⟩
   .obtain⟨_,s,arr,fz,e,hn⟩:=i m;obtain⟨z,u⟩:=d h2 k2 s e;rw[g2 m]at c;cases c;exact⟨arr,fz,hn.row,hn.text z u⟩
  .rcases g p hp with⟨rfl,m⟩|⟨rfl,m⟩<;>rcases g p' hp' with⟨rfl,k⟩|⟨rfl,k⟩
   .rfl
   .rw[g1 m]at c;rw[g2 k]at n;cases c;cases n;exact Ld ((j m).1.symm.trans (e.trans (i k).1)) T
   .rw[g2 m]at c;rw[g1 k]at n;cases c;cases n;exact Ld ((j k).1.symm.trans (e.symm.trans (i m).1)) T
   .rfl
end
noncomputable section
def yc(v:Ei):Bool:=match v with|.int _ _=>true|.string _=>true|.bool _=>true|_=>false
section
variable[Unk]{P:Ef}{tabs:List (Nat×X)}{β:Inj}
def j8{op:BinOp}{b:G}{m n:Int}(ha:WF β a)(hb:WF β b)(d:WF β r)(c:J β a = .int k m)(e:J β b = .int j n)(h:YV op k m j n=some v)(hv:J β v=J β r):zu P tabs β (.bin op a b r):=by
 refine⟨ha,hb,d,by rw[c];rfl,λt w=>?_⟩;rw[c,e,<- hv];exact(lF h t β w).1
def PA(ha:WF β a)(b:WF β r)(e:J β a = .int k (m:Nat))(hc:c≠0)(d:J β r = .int k (m % c:Nat)):zu P tabs β (.bin .rem a (.int k (.ofNat c)) r):=by
 refine j8 (k:=k) (j:=k) (m:=(m:Nat)) (n:=(c:Nat)) ha trivial b e rfl (v:=mkInt k (tE (m:Nat) (c:Nat))) ?_ ?_
 .show ifB (bd (c:Nat) (.ofNat 0)) none (same k k (mkInt k (tE (m:Nat) (c:Nat))))=_
  have:bd ((c:Nat):Int) (.ofNat 0)=false:=by
   rw[QK];simpa using hc
  rw[this,yy];unfold same;rw[zo,Y ((Xs _ _).2 rfl)]
 .rw[kM,tD,d];rfl
def rl{n:Int}(h1:-9223372036854775808<=n)(h2:n<=9223372036854775807):IntKind.i64.wrap n=n:=by
 unfold IntKind.wrap;simp only[IntKind.signed,IntKind.bits,Bool.true_and];split
 .rename_i h;have h:=of_decide_eq_true h;omega
 .rename_i h;have h:n % 18446744073709551616<9223372036854775808:=by simpa using h
  show n % 18446744073709551616=n;omega
def ee{n:Int}(h1:0<=n)(h2:n<18446744073709551616):IntKind.u64.wrap n=n:=by
 unfold IntKind.wrap;simp only[IntKind.signed,IntKind.bits,Bool.false_and];show n % 18446744073709551616=n;omega
def Xx{n:Int}(ha:WF β a)(b:WF β r)(d:J β a = .int j n)(c:J β r = .int k n)(h:k.wrap n=n):zu P tabs β (.conv k a r):=
 ⟨ha,b,j,n,d,by rw[c,h]⟩
def JQ{b:G}{m n:Int}{r:Bool}(ha:WF β a)(hb:WF β b)(e:J β a = .int k m)(d:J β b = .int k n)(c:r=(m==n)):zu P tabs β (.eq 1 a b r):=⟨ha,hb,.inl ⟨rfl,k,m,n,e,d,c⟩⟩
def XS{b:G}{s t:Ee}{r:Bool}(ha:WF β a)(hb:WF β b)(e:J β a = .string s)(d:J β b = .string t)(c:r=decide (s=t)):zu P tabs β (.eq 2 a b r):=⟨ha,hb,.inr (.inl ⟨rfl,s,t,e,d,c⟩)⟩
def zcm{b:G}{s t:Bool}{r:Bool}(ha:WF β a)(hb:WF β b)(e:J β a = .bool s)(d:J β b = .bool t)(c:r=(s==t)):zu P tabs β (.eq 3 a b r):=⟨ha,hb,.inr (.inr ⟨rfl,s,t,e,d,c⟩)⟩
def zcl{b:G}{m n:Int}(ha:WF β a)(hb:WF β b)(c:WF β r)(f:J β a = .int k m)(d:J β b = .int k n)(e:J β r = .int k (if n<m then n else m)):zu P tabs β (.min a b r):=⟨ha,hb,c,k,m,n,f,d,e⟩
def XR{s:Ee}(ha:WF β a)(b:WF β r)(d:J β a = .string s)(c:J β r = .int .i64 (s.size:Nat)):zu P tabs β (.len a r):=⟨ha,b,s,d,c⟩
def Q8{p:Ed}(ha:WF β a)(b:WF β r)(e:J β a = .slice p n c)(d:J β r = .int .i64 (n:Nat)):zu P tabs β (.slen a r):=⟨ha,b,p,n,c,e,d⟩
def zef{h:G}{p:Ed}{k:Nat}(ha:WF β a)(hh:WF β h)(b:WF β r)(g:J β a = .slice p n c)(f:J β h = .int j (Int.ofNat k))(d:k<=c)(e:J β r = .slice p k c):zu P tabs β (.ssub a h r):=⟨ha,hh,b,p,n,c,j,k,g,f,d,e⟩
def zgN{b:G}{s t:Ee}(ha:WF β a)(hb:WF β b)(d:WF β r)(c:J β a = .string s)(f:J β b = .string t)(e:J β r = .string (s++t))(h:s.size+t.size<=1000000000):zu P tabs β (.bin .add a b r):=by
 refine⟨ha,hb,d,by rw[c];rfl,λ_ w=>?_⟩;rw[c,f,e];show(Op.stringOp .add s t).run P w=_;have hm:IntKind.i64.max=9223372036854775807:=rfl;simp only[Op.stringOp];rw[O (by rw[hm];omega)];rfl
def gl(ha:WF β a)(b:J β a = .int .i64 (m:Nat))(h:m<=c):zu P tabs β (.bin .gtr a (.int .i64 (.ofNat c)) (.bool false)):=by
 refine j8 (k:=.i64) (j:=.i64) (m:=(m:Nat)) (n:=(c:Nat)) ha trivial trivial b rfl (v:=j7 (ilt (c:Nat) (m:Nat))) rfl ?_;rw[Zi,yx];have:decide (((c:Nat):Int)<((m:Nat):Int))=false:=by simpa using h
 rw[this]
theorem ko{w:Ea}:ql P [] w:=⟨λid=>some (Unk.place id),λ_ _=>rfl,λp hp=>by cases hp⟩
end
section
variable[Unk]
def NH{v:Ei}(h:yc v=true):∃z,qn z=v:=by
 cases v<;>first|exact vp _ _|exact vo _|exact rG _|(cases h;done)
def codeOf(v:Ei):Nat×Nat×Nat:=Classical.epsilon λz=>qn z=v
def mP{v:Ei}(h:yc v=true):qn (codeOf v)=v:=Classical.epsilon_spec (NH h)
def YI(val:El):Inj:=λid=>if 100<=id/\id<300 then some (codeOf (val id)) else none
abbrev B(val:El):Inj:=zQ (YI val)
variable{val:El}
def Zx:∀id z,YI val id=some z->id<300:=by
 intro id z h;unfold YI at h;split at h
 .rename_i h1;omega
 .cases h
def sc{id:Nat}(h1:100<=id)(h2:id<300):B val id=some (codeOf (val id)):=by
 show zQ (YI val) id=_;unfold zQ YI;rw[O I,Y ⟨h1,h2⟩]
def WZ{id:Nat}(h1:id<100):B val id=some (Unk.place id):=by
 show zQ (YI val) id=_;unfold zQ;rw[Y h1]
def zE{id:Nat}(h2:id<300):WF (B val) (.sym id):=by
 by_cases h1:100<=id
 .simp[WF,sc h1 h2]
 .simp[WF,WZ (val:=val) (id:=id) I]
def Sw{id:Nat}(h1:100<=id)(h2:id<300)(a:yc (val id)=true):J (B val) (.sym id)=val id:=by
 simp only[J,sc h1 h2,LW];exact mP a
def zF{id:Nat}{v:Ei}(h1:100<=id)(h2:id<300)(e:val id=v)(a:yc v=true):J (B val) (.sym id)=v:=by
 rw[Sw h1 h2 (by rw[e];exact a),e]
def Zr{id:Nat}(h1:id<100):J (B val) (.sym id)=qn (Unk.place id):=by
 simp only[J,WZ h1,LW]
end
end
section
variable[Unk]
def qG(σ:Inj)(N m:Nat)(pl:Nat->Nat×Nat×Nat):Inj:=λid=>if N<=id/\id<N+m then some (pl id) else zQ σ id
section
variable{E:Env}{σ:Inj}{N m:Nat}{pl:Nat->Nat×Nat×Nat}
def qH{id:Nat}(h1:N<=id)(h2:id<N+m):qG σ N m pl id=some (pl id):=Y ⟨h1,h2⟩
def Zz{id:Nat}(h:id<N):qG σ N m pl id=zQ σ id:=O I
def kl(h60:100<=N)(a:∀id x,σ id=some x->id<N):(zQ σ).le (qG σ N m pl):=by
 intro id x h
 have hid:id<N:=by
  unfold zQ at h;split at h
  .omega
  .exact a id x h
 rw[Zz hid];exact h
def Uj(h60:100<=N)(n:∀id x,σ id=some x->id<N)(g:zP E.tabs=true)(z:ql E.P E.tabs w)(d:∀p∈rin,N<=p.1/\p.1<N+m)
  (hblk:∀p∈rin,zO E.P (qG σ N m pl) p.2 (pl p.1) w) (hinj:∀p∈rin,∀q∈rin,(pl p.1).1=(pl q.1).1->p.1=q.1) (hsep:∀p∈rin,∀t∈E.tabs,(Unk.place t.1).1≠(pl p.1).1):Rel E.P (qG σ N m pl) (jD E (N+m) rin) w:=by
 have S:Rel E.P (zQ σ) (jt E N) w:=lx h60 n g z;have hle:=kl (m:=m) (pl:=pl) h60 n
 have a:∀id b,(jD E (N+m) rin).blk.get id=some b->(id,b)∈rin\/((id,b)∈E.tabs/\id<100/\(jt E N).blk.get id=some b):=by
  intro id b h;rcases kB rin _ id b h with hm|⟨_,hm⟩
  .exact .inl hm
  .have:=kK _ _ _ hm;exact .inr ⟨this,(qu g _ this).1,hm⟩
 have low:∀id,id<100->qG σ N m pl id=some (Unk.place id):=λid h=>by rw[Zz I];exact Y h
 refine⟨by show 100<=N+m;omega,?_,?_,?_,?_⟩
 .intro id b x h1 h2;rcases a id b h1 with hm|⟨_,h3,f⟩
  .obtain⟨l,k⟩:=d _ hm;have h2:qG σ N m pl id=some x:=h2;rw[qH l k]at h2;cases h2;exact hblk _ hm
  .rw[Zz (show id<N by omega)]at h2;exact(S.blk id b x f h2).mono hle
 .intro i j b c x y h1 h2 h3 f e;rcases a i b h1 with hm|⟨v,k2,_⟩<;>rcases a j c h3 with hn|⟨l1,l2,_⟩
  .obtain⟨l,k⟩:=d _ hm;obtain⟨u,r⟩:=d _ hn;rw[qH l k]at h2;rw[qH u r]at f;cases h2;cases f;exact .inl (hinj _ hm _ hn e)
  .obtain⟨l,k⟩:=d _ hm;rw[qH l k]at h2;rw[low j l2]at f;cases h2;cases f;exact Ld e.symm (hsep _ hm _ l1)
  .obtain⟨u,r⟩:=d _ hn;rw[qH u r]at f;rw[low i k2]at h2;cases h2;cases f;exact Ld e (hsep _ hn _ v)
  .exact .inr ⟨k2,l2⟩
 .intro id x h;show id<N+m;by_cases hi:N<=id/\id<N+m
  .exact hi.2
  .have h:qG σ N m pl id=some x:=h;unfold qG at h;rw[O hi]at h;unfold zQ at h;split at h
   .omega
   .have:=n id x h;omega
 .intro id b h;show id<N+m;rcases a id b h with hm|⟨_,h3,_⟩
  .exact(d _ hm).2
  .omega
def FN(h60:100<=N)(f:∀id x,σ id=some x->id<N)(hfacts:zJ E (zQ σ))(c:zP E.tabs=true)(i:YF E (zQ σ))(b:∀p∈rin,N<=p.1/\p.1<N+m):YE E (qG σ N m pl) (jD E (N+m) rin):=by
 have hle:=kl (m:=m) (pl:=pl) h60 f;refine⟨λg h=>by rw[Zz I];exact Y h,by show 100<=N+m;omega,hfacts.mono hle,λp hp=>?_,i.mono hle⟩;obtain⟨k,_,j⟩:=qu c p hp;refine⟨k,?_⟩;show(qf rin (jj E.tabs)).get p.1=_;rw[Qv rin _ _ λd a e=>by have:=(b d a).1;omega];exact j
structure ziu(w w2:Ea)(N m:Nat)(pl:Nat->Nat×Nat×Nat):Prop where
 frame:∀c,c<w.heap.size->(∀i,N<=i->i<N+m->(pl i).1≠c)->w2.heap[c]?=w.heap[c]?
 size:w.heap.size<=w2.heap.size
 tape:w2.tape=w.tape
 os:w2.os=w.os
 output:w2.output=w.output
def Wf(hF:FitA E)(h60:100<=N)(n:∀id x,σ id=some x->id<N)(hfacts:zJ E (zQ σ))(z:YF E (zQ σ))(g:zP E.tabs=true)(u:ql E.P E.tabs w)(d:∀p∈rin,N<=p.1/\p.1<N+m)
  (hblk:∀p∈rin,zO E.P (qG σ N m pl) p.2 (pl p.1) w) (hinj:∀p∈rin,∀q∈rin,(pl p.1).1=(pl q.1).1->p.1=q.1) (hsep:∀p∈rin,∀t∈E.tabs,(Unk.place t.1).1≠(pl p.1).1)
  {fuel:Nat}{f:Eu}{args:List G}{r:G}{H':Heap} (h:qL E (kh E fuel) f args (jD E (N+m) rin)=some (r,H')) (hargs:WFs (qG σ N m pl) args) :
  Calls E.P f (K (qG σ N m pl) args).toArray w λe w2=>ziu w w2 N m pl/\∃γ,e = .returned (J γ r)/\WF γ r/\(∀id,id<N+m->γ id=qG σ N m pl id)/\Rel E.P γ H' w2 /\
   (∀id x,N+m<=id->γ id=some x->w.heap.size<=x.1\/∃p∈rin,(pl p.1).1=x.1):=by
 have hR:=Uj h60 n g u d hblk hinj hsep;have y:=FN (pl:=pl) h60 n hfacts g z d
 have a:∀c,Range (qG σ N m pl) (jD E (N+m) rin) c->∃p∈rin,(pl p.1).1=c:=by
  rintro c ⟨id,b,x,H,h1,h2,rfl⟩
  rcases kB rin _ id b h1 with hm|⟨_,hm⟩
  .obtain⟨k,j⟩:=d _ hm;rw[qH k j]at h2;cases h2;exact⟨_,hm,rfl⟩
  .have:=(qu g _ (kK _ _ _ hm)).1;omega
 refine(pD hF h hR y hargs).mono λe w2 hx=>?_;obtain⟨x,rfl,γ,rfl,k,j,i⟩:=hx;refine⟨⟨λc hc l=>i.frame c hc λv=>?_,i.size,i.tape,i.os,i.output⟩,γ,rfl,k,λid hid=>i.old id hid,j,λid x hid hx=>?_⟩
 .obtain⟨p,hp,e⟩:=a c v;obtain⟨k,j⟩:=d p hp;exact l p.1 k j e
 .rcases i.new id x hid hx with h|h
  .exact .inl h
  .exact .inr (a _ h)
end
def zx(P:Ef)(w:Ea)(x:Ej)(t:Eg)(vs:Ec):Prop:=
 ∃arr fz,w.heap[x.1]?=some (.cells arr t fz)/\x.2.1+vs.length+x.2.2*qS P t<=arr.size/\(∀i,i<arr.size->¬(fz.1<=i/\i<fz.2))/\qS P t ∣ x.2.1/\∀j,j<vs.length->arr[x.2.1+j]?=vs[j]?
theorem zx.heap{P:Ef}{w w':Ea}{x:Ej}{t:Eg}{a:Ec}(h:zx P w x t a)(e:w'.heap[x.1]?=w.heap[x.1]?):zx P w' x t a:=by
 unfold zx at h ⊢;rw[e];exact h
def Js(a:Inj)(l:List G):(K a l).length=l.length:=by rw[zC,Ls]
def bn(a:Inj)(l:List G)(j:Nat):(K a l)[j]?=(l[j]?).map (J a):=by rw[zC,Lw]
def zx.blk{g:Inj}(hn:l.length=n)(hw:WFs g l)(h:zx P w x t (K g l)):zO P g (.cells t n (M.ofList l)) x w:=by
 obtain⟨arr,fz,h1,h2,h3,b,a⟩:=h;rw[Js,hn]at h2;refine⟨arr,fz,h1,h2,λi v hv=>?_,h3,b⟩;rw[M.qy]at hv;have hi:i<l.length:=(LL.1 hv).1;refine⟨(qb _ _).1 hw v (LX hv),?_⟩;rw[a i (by rw[Js];exact hi),bn,hv];rfl
def zx.of{g:Inj}(hn:l.length=n)(h:zO P g (.cells t n (M.ofList l)) x w):zx P w x t (K g l):=by
 obtain⟨arr,fz,h1,h2⟩:=h;refine⟨arr,fz,h1,?_,h2.thaw,h2.al,λj a=>?_⟩
 .rw[Js,hn];exact h2.size
 .rw[Js]at a;rw[bn,Ly a];exact(h2.cell j _ (by rw[M.qy,Ly a])).2
def M9{tabs:List (Nat×X)}{β0:Inj}{args:List G}{id:Nat}{bl t:X}(h1:100<=id)(Q:nx<=n)(hwr:WF β0 r)
  (hpl:∀β',WFs β' args->(β' id).isSome)
  (hc:∀β' w x,β0.le β'->(∀g,g<100->β' g=some (Unk.place g))->ql P tabs w->(∀p∈tabs,(Unk.place p.1).1≠x.1)->β' id=some x->zO P β' bl x w->WFs β' args ->
   Calls P f (K β' args).toArray w λe w2=>e = .returned (J β' r)/\zO P β' t x w2/\(∀k,k<w.heap.size->k≠x.1->w2.heap[k]?=w.heap[k]?)/\w.heap.size<=w2.heap.size/\w2.tape=w.tape/\w2.os=w.os/\w2.output=w.output) :
  yW P tabs β0 f args nx [(id,bl)] [(id,t)] r n:=by
 intro β' H w hle hR u h hnx hin l;have a:=hin _ LG;obtain⟨x,hx⟩:=LM.1 (hpl β' l);have hblk:=hR.blk _ _ _ a hx
 have hsep:∀p∈tabs,(Unk.place p.1).1≠x.1:=by
  intro p hp e;obtain⟨t1,t2⟩:=h p hp;have:=hR.QV (.inr h1) t2 (u _ t1) a hx e;omega
 refine(hc β' w x hle u ⟨β',u,λp hp=>hR.blk p.1 p.2 _ (h p hp).2 (u p.1 (h p hp).1)⟩ hsep hx hblk l).mono λe w2 hq=>?_;obtain⟨rfl,q1,q5,q6,q7,q8,q9⟩:=hq
 have c:∀i,(ZV H [(id,bl)] [(id,t)] n).blk.get i=if id=i then some t else H.blk.get i:=by
  intro i;show(M.set (H.blk.del id) id t).get i=_;rw[M.zN,M.jv];split<;>simp_all
 have hsame:∀i b y,id≠i->H.blk.get i=some b->β' i=some y->w2.heap[y.1]?=w.heap[y.1]?:=by
  intro i b y hne hb hy;exact q5 _ (hR.blk i b y hb hy).lt λe=>hne (hR.QV (.inl h1) a hx hb hy e.symm)
 obtain⟨wr1,wr2⟩:=WF.mono hle _ hwr;refine⟨β',rfl,wr1,?_,?_⟩
 .refine⟨Lj hR.base (by rw[hnx];exact Q),?_,?_,?_,?_⟩
  .intro i b y v e2;rw[c]at v;split at v
   .rename_i e;subst e;cases v;rw[hx]at e2;cases e2;exact q1
   .rename_i hne;exact(hR.blk i b y v e2).heap (hsame i b y hne v e2)
  .intro i j b d y z v e2 e3 e4 e;rw[c]at v e3
   have w1:∃b',H.blk.get i=some b':=by
    split at v
    .rename_i e';subst e';exact⟨_,a⟩
    .exact⟨_,v⟩
   have T:∃b',H.blk.get j=some b':=by
    split at e3
    .rename_i e';subst e';exact⟨_,a⟩
    .exact⟨_,e3⟩
   obtain⟨b1,w1⟩:=w1;obtain⟨b2,T⟩:=T;exact hR.inj i j b1 b2 y z w1 e2 T e4 e
  .intro i y e;show i<n;have:=hR.bnd i y e;omega
  .intro i b e;show i<n;rw[c]at e;split at e
   .rename_i e';subst e';have:=hR.live _ _ a;omega
   .have:=hR.live _ _ e;omega
 .refine⟨λ_ _=>rfl,by rw[hnx];exact Q,λi _ hn=>?_,λi b _ e=>?_,λi hi=>?_,λi y hi e=>?_,λk hk hr=>?_,q6,q7,q8,q9⟩
  .rw[c,O];rintro rfl
   rw[hx]at hn;cases hn
  .rw[c]at e;split at e
   .rename_i e';subst e';exact⟨_,a⟩
   .exact⟨_,e⟩
  .rw[c,O I]
  .have:=hR.bnd i y e;omega
  .exact q5 k hk λe=>hr ⟨id,_,x,h1,a,hx,e.symm⟩
def Ut{tabs:List (Nat×X)}{β0:Inj}{args:List G}{id:Nat}{l':List G}(hm:l.length=m)(hm':l'.length=m)(h1:100<=id)(T:nx<=n)(hwr:WF β0 r)(hl':WFs β0 l')
  (hpl:∀β',WFs β' args->(β' id).isSome)
  (hc:∀β' w x,β0.le β'->(∀g,g<100->β' g=some (Unk.place g))->ql P tabs w->(∀p∈tabs,(Unk.place p.1).1≠x.1)->β' id=some x->zx P w x t (K β' l)->WFs β' args ->
   Calls P f (K β' args).toArray w λe w2=>e = .returned (J β' r)/\zx P w2 x t (K β' l')/\(∀k,k<w.heap.size->k≠x.1->w2.heap[k]?=w.heap[k]?)/\w.heap.size<=w2.heap.size/\w2.tape=w.tape/\w2.os=w.os/\w2.output=w.output) :
  yW P tabs β0 f args nx [(id,.cells t m (M.ofList l))] [(id,.cells t m (M.ofList l'))] r n:=by
 intro β' H w hle hR v h hnx hin u;have a:=hin _ LG;obtain⟨x,hx⟩:=LM.1 (hpl β' u);have hblk:=hR.blk _ _ _ a hx
 have hsep:∀p∈tabs,(Unk.place p.1).1≠x.1:=by
  intro p hp e;obtain⟨t1,t2⟩:=h p hp;have:=hR.QV (.inr h1) t2 (v _ t1) a hx e;omega
 refine(hc β' w x hle v ⟨β',v,λp hp=>hR.blk p.1 p.2 _ (h p hp).2 (v p.1 (h p hp).1)⟩ hsep hx (zx.of hm hblk) u).mono λe w2 hq=>?_;obtain⟨rfl,q1,q5,q6,q7,q8,q9⟩:=hq
 have c:∀i,(ZV H [(id,.cells t m (M.ofList l))] [(id,.cells t m (M.ofList l'))] n).blk.get i=if id=i then some (.cells t m (M.ofList l')) else H.blk.get i:=by
  intro i;show(M.set (H.blk.del id) id (.cells t m (M.ofList l'))).get i=_;rw[M.zN,M.jv];split<;>simp_all
 have hsame:∀i b y,id≠i->H.blk.get i=some b->β' i=some y->w2.heap[y.1]?=w.heap[y.1]?:=by
  intro i b y hne hb hy;exact q5 _ (hR.blk i b y hb hy).lt λe=>hne (hR.QV (.inl h1) a hx hb hy e.symm)
 obtain⟨wr1,wr2⟩:=WF.mono hle _ hwr;obtain⟨wl1,wl2⟩:=WFs.mono hle _ hl';refine⟨β',rfl,wr1,?_,?_⟩
 .refine⟨Lj hR.base (by rw[hnx];exact T),?_,?_,?_,?_⟩
  .intro i b y Q e2;rw[c]at Q;split at Q
   .rename_i e;subst e;cases Q;rw[hx]at e2;cases e2;exact q1.blk hm' wl1
   .rename_i hne;exact(hR.blk i b y Q e2).heap (hsame i b y hne Q e2)
  .intro i j b d y z Q e2 e3 e4 e;rw[c]at Q e3
   have w1:∃b',H.blk.get i=some b':=by
    split at Q
    .rename_i e';subst e';exact⟨_,a⟩
    .exact⟨_,Q⟩
   have w2':∃b',H.blk.get j=some b':=by
    split at e3
    .rename_i e';subst e';exact⟨_,a⟩
    .exact⟨_,e3⟩
   obtain⟨b1,w1⟩:=w1;obtain⟨b2,w2'⟩:=w2';exact hR.inj i j b1 b2 y z w1 e2 w2' e4 e
  .intro i y e;show i<n;have:=hR.bnd i y e;omega
  .intro i b e;show i<n;rw[c]at e;split at e
   .rename_i e';subst e';have:=hR.live _ _ a;omega
   .have:=hR.live _ _ e;omega
 .refine⟨λ_ _=>rfl,by rw[hnx];exact T,λi _ hn=>?_,λi b _ e=>?_,λi hi=>?_,λi y hi e=>?_,λk hk hr=>?_,q6,q7,q8,q9⟩
  .rw[c,O];rintro rfl
   rw[hx]at hn;cases hn
  .rw[c]at e;split at e
   .rename_i e';subst e';exact⟨_,a⟩
   .exact⟨_,e⟩
  .rw[c,O I]
  .have:=hR.bnd i y e;omega
  .exact q5 k hk λe=>hr ⟨id,_,x,h1,a,hx,e.symm⟩
end
section
variable[Unk]
def gA:∀(l:List (Nat×X)) (t:M X) (i:Nat),(ZV ⟨t,0⟩ l [] 0).blk.get i=if l.any (λp=>Nat.beq p.1 i) then none else t.get i
 | [],t,i=>rfl
 | p::l,t,i=>by
  have a:=gA l t i;show(M.del (ZV ⟨t,0⟩ l [] 0).blk p.1).get i=_;rw[M.jv,a];by_cases h:p.1=i
  .subst h;simp
  .have e:Nat.beq p.1 i=false:=by rw[zA];simpa using h
   have b:(p::l).any (λp=>Nat.beq p.1 i)=l.any (λp=>Nat.beq p.1 i):=by rw[any_cons,e,Bool.false_or]
   rw[O h,b]
def F0{tabs:List (Nat×X)}{β0:Inj}{args:List G}(h1:∀p∈rin,100<=p.1)(T:nx<=n)(hwr:WF β0 r)
  (hpl:∀β' w,β0.le β'->WFs β' args->(∀p∈rin,∀x,β' p.1=some x->zO P β' p.2 x w)->∀p∈rin,(β' p.1).isSome)
  (hc:∀β' w,β0.le β'->(∀g,g<100->β' g=some (Unk.place g))->ql P tabs w->(∀p∈rin,∃x,β' p.1=some x/\zO P β' p.2 x w/\∀t∈tabs,(Unk.place t.1).1≠x.1)->(∀p∈rin,∀q∈rin,∀x y,β' p.1=some x->β' q.1=some y->x.1=y.1->p.1=q.1)->WFs β' args ->
   Calls P f (K β' args).toArray w λe w2=>e = .returned (J β' r)/\(∀k,k<w.heap.size->(∀p∈rin,∀x,β' p.1=some x->k≠x.1)->w2.heap[k]?=w.heap[k]?)/\w.heap.size<=w2.heap.size/\w2.tape=w.tape/\w2.os=w.os/\w2.output=w.output) :
  yW P tabs β0 f args nx rin [] r n:=by
 intro β' H w hle hR Q c hnx l v;have m:=hpl β' w hle v (λp hp x hx=>hR.blk _ _ _ (l p hp) hx)
 have hrow:∀p∈rin,∃x,β' p.1=some x/\zO P β' p.2 x w/\∀t∈tabs,(Unk.place t.1).1≠x.1:=by
  intro p hp;obtain⟨x,hx⟩:=LM.1 (m p hp);refine⟨x,hx,hR.blk _ _ _ (l p hp) hx,λt ht e=>?_⟩;obtain⟨t1,t2⟩:=c t ht;have:=hR.QV (.inr (h1 p hp)) t2 (Q _ t1) (l p hp) hx e;have:=h1 p hp;omega
 have hdist:∀p∈rin,∀q∈rin,∀x y,β' p.1=some x->β' q.1=some y->x.1=y.1->p.1=q.1:=λp hp q hq x y hx hy e=>hR.QV (.inl (h1 p hp)) (l p hp) hx (l q hq) hy e;refine(hc β' w hle Q ⟨β',Q,λp hp=>hR.blk p.1 p.2 _ (c p hp).2 (Q p.1 (c p hp).1)⟩ hrow hdist v).mono λe w2 hq=>?_;obtain⟨rfl,q5,q6,q7,q8,q9⟩:=hq;have u:∀i,(ZV H rin [] n).blk.get i=if rin.any (λp=>Nat.beq p.1 i) then none else H.blk.get i:=λi=>gA rin H.blk i
 have a:∀i b,(ZV H rin [] n).blk.get i=some b->H.blk.get i=some b/\∀p∈rin,p.1≠i:=by
  intro i b e;rw[u]at e;split at e
  .cases e
  .rename_i hn;refine⟨e,λp hp h=>hn ?_⟩;rw[List.any_eq_true];exact⟨p,hp,by rw[zA];simpa using h⟩
 have hsame:∀i b y,(∀p∈rin,p.1≠i)->H.blk.get i=some b->β' i=some y->w2.heap[y.1]?=w.heap[y.1]?:=by
  intro i b y hne hb hy;refine q5 _ (hR.blk i b y hb hy).lt λp hp x hx e=>?_;exact hne p hp (hR.QV (.inl (h1 p hp)) (l p hp) hx hb hy e.symm)
 obtain⟨wr1,wr2⟩:=WF.mono hle _ hwr;refine⟨β',rfl,wr1,?_,?_⟩
 .refine⟨Lj hR.base (by rw[hnx];exact T),?_,?_,?_,?_⟩
  .intro i b y e1 e2;obtain⟨g1,g2⟩:=a i b e1;exact(hR.blk i b y g1 e2).heap (hsame i b y g2 g1 e2)
  .intro i j b d y z e1 e2 e3 e4 e;exact hR.inj i j b d y z (a i b e1).1 e2 (a j d e3).1 e4 e
  .intro i y e;show i<n;have:=hR.bnd i y e;omega
  .intro i b e;show i<n;have:=hR.live _ _ (a i b e).1;omega
 .refine⟨λ_ _=>rfl,by rw[hnx];exact T,λi hi hn=>?_,λi b _ e=>⟨b,(a i b e).1⟩,λi hi=>?_,λi y hi e=>?_,λk hk hr=>?_,q6,q7,q8,q9⟩
  .rw[u,O];rw[List.any_eq_true];rintro⟨p,hp,h⟩
   have h:p.1=i:=by rw[zA]at h;simpa using h
   have:=m p hp;rw[h,hn]at this;cases this
  .rw[u,O];rw[List.any_eq_true];rintro⟨p,hp,h⟩
   have h:p.1=i:=by rw[zA]at h;simpa using h
   have:=h1 p hp;omega
  .have:=hR.bnd i y e;omega
  .refine q5 k hk λp hp x hx e=>hr ⟨p.1,_,x,h1 p hp,l p hp,hx,e.symm⟩
end
noncomputable section
def okE(v:G):Bool:=match v with|.int k n=>L (Wt k) (L (kV (ilt n (.ofNat 0))) (kV (ilt (.ofNat 64) n)))|.sym i=>L (Nat.ble 132 i) (Nat.blt i 140)|_=>false
def mr(v:G):Bool:=match v with|.int k n=>L (Wt k) (bd n (.ofNat 0))|_=>false
def MJ(r:Row)(l cp:Nat):Bool:=L (Nat.beq r.t 3) (L (Nat.ble cp r.n) (L (Nat.ble l cp) (L (Nat.blt 0 l) (Z (M.Xu l r.c 0) false λcs=>ifB (Nat.ble l 5) (Jb okE cs) (L (Nat.beq l 64) (Jb mr cs))))))
def MI(b:Nat)(v:G)(H:Heap):Bool:=Z (mX v) false λq=>L (L (Nat.ble 142 q) (Nat.blt q 144)) (Z (H.blk.get b) false λk=>Z (pB k) false λp=>L (Nat.beq p.1 3) (qF p.2 v))
def aO(H:Heap)(v:G):Bool:=
 match v with
 | .nilslice=>true
 | .slice b o l cp _=>L (Nat.beq o 0) (L (Nat.ble 300 b) (Z (H.row b) false λr=>MJ r l cp))
 | .osl b s=>L (Nat.ble 300 b) (MI b s H)
 | _=>false
def VL(v:G):Option Nat:=match v with|.slice b _ _ _ _=>some b|.osl b _=>some b|_=>none
def Tl(v w:G):Bool:=Z (VL v) true λb=>Z (VL w) true λc=>kV (Nat.beq b c)
end
def Zc(val:El)(u:G):Nat:=match u with|.int _ n=>n.toNat|.sym i=>sW (val i)|_=>0
def elems(val:El)(cs:List G):ByteArray:=⟨(cs.map λu=>UInt8.ofNat (Zc val u)).toArray⟩
def KK:ByteArray:=⟨(List.replicate 64 0).toArray⟩
def Small(s:Ee):Prop:=0<s.size/\((s.size<=5/\∀(i:Nat) (c:UInt8),s.data[i]?=some c->c.toNat<=64)\/s=KK)
noncomputable def XP(val:El)(H:Heap)(v:G):Option ByteArray:=
 match v with
 | .slice b _ l _ _=>some (elems val (((H.row b).bind λr=>M.Xu l r.c 0).getD []))
 | .osl _ (.sym q)=>some (sOf (val q))
 | _=>none
def Qc(o:En):Prop:=∀s,o=some s->Small s
structure iY(val:El):Prop where
 el:∀i,132<=i->i<140->∃n:Nat,n<=64/\val i = .int .i64 (n:Nat)
 st:∀q,142<=q->q<144->∃s,val q = .string s/\Small s
section
variable[Unk]{P:Ef}{val:El}
def MM{g:Inj}(hv:iY val)(hlow:∀id,id<300->g id=B val id){u:G}(h:okE u=true):Zc val u<=64/\J g u = .int .i64 (Zc val u:Nat):=by
 cases u<;>simp only[okE]at h<;>first|(cases h;done)|skip
 .rename_i k n;simp only[zl,Le,qW,Zi]at h;obtain⟨h1,h2,h3⟩:=h;have h1:=Zp h1;subst h1;have h2:¬(n<0):=by simpa using h2
  have h3:¬((64:Int)<n):=by
   have:=h3;simp only[Bool.not_eq_true',LH]at this;exact this
  refine⟨by simp only[Zc];omega,?_⟩;simp only[J,Zc];congr 1;omega
 .rename_i i;simp only[zl,Le,zK,zW,Lk]at h;obtain⟨n,hn,e⟩:=hv.el i h.1 h.2;have a:Zc val (.sym i)=n:=by simp[Zc,e,sW]
  refine⟨by rw[a];exact hn,?_⟩;rw[a];have:J g (.sym i)=J (B val) (.sym i):=by simp only[J,hlow i I]
  rw[this];exact zF I I e rfl
def Kk(cs:List G):(elems val cs).size=cs.length:=by simp[elems,ByteArray.size]
def mM(cs:List G)(i:Nat):(elems val cs).data[i]?=(cs[i]?).map λu=>UInt8.ofNat (Zc val u):=by simp[elems]
def tG{γ:Inj}{u:G}(h:mr u=true):Zc val u=0/\J γ u = .int .i64 (Zc val u:Nat):=by
 cases u<;>simp only[mr]at h<;>first|(cases h;done)|skip
 rename_i k n;rw[zl,Le,QK]at h;have h1:=Zp h.1;subst h1;have h2:n=0:=by simpa using h.2
 subst h2;exact⟨rfl,rfl⟩
def sM{r:Row}{l cp:Nat}(h:MJ r l cp=true):r.t=3/\cp<=r.n/\l<=cp/\0<l/\∃cs,M.Xu l r.c 0=some cs/\((l<=5/\∀u∈cs,okE u=true)\/(l=64/\∀u∈cs,mr u=true)):=by
 unfold MJ at h;simp only[zl,Le,zA,Ll,zK,zW,Lk]at h;obtain⟨h1,h2,h3,e,a⟩:=h
 cases b:M.Xu l r.c 0 with
 | none=>rw[b]at a;cases a
 | some cs=>
  rw[b,ze,zo]at a;refine⟨h1,h2,h3,e,cs,rfl,?_⟩;split at a
  .rename_i d;rw[Lk]at d;rw[Z9]at a;exact .inl ⟨d,Ad.1 a⟩
  .rw[Le,Ll,Z9]at a;exact .inr ⟨a.1,Ad.1 a.2⟩
def ziT{γ:Inj}(hv:iY val)(hlow:∀id,id<300->γ id=B val id){l:Nat}{cs:List G}(h:(l<=5/\∀u∈cs,okE u=true)\/(l=64/\∀u∈cs,mr u=true)):∀u∈cs,Zc val u<=64/\J γ u = .int .i64 (Zc val u:Nat):=by
 intro u c;rcases h with⟨_,h⟩|⟨_,h⟩
 .exact MM hv hlow (h u c)
 .obtain⟨a,b⟩:=tG (val:=val) (γ:=γ) (h u c);exact⟨I,b⟩
def rR{γ:Inj}(hv:iY val)(hlow:∀id,id<300->γ id=B val id){l:Nat}{cs:List G}(hl:cs.length=l)(e:0<l)(h:(l<=5/\∀u∈cs,okE u=true)\/(l=64/\∀u∈cs,mr u=true)):Small (elems val cs):=by
 refine⟨by rw[Kk];omega,?_⟩;rcases h with⟨d,h⟩|⟨d,h⟩
 .refine .inl ⟨by rw[Kk];omega,λi c hc=>?_⟩;rw[mM]at hc;obtain⟨u,a,rfl⟩:=LU.1 hc;have:=(MM hv hlow (h u (LX a))).1;rw[toNat_ofNat'];omega
 .refine .inr ?_;unfold elems KK
  have:cs.map (λu=>UInt8.ofNat (Zc val u))=List.replicate 64 0:=by
   rw[List.eq_replicate_iff];refine⟨by rw[Ls];omega,λb hb=>?_⟩;obtain⟨u,a,rfl⟩:=Lv.1 hb;rw[(tG (val:=val) (γ:=γ) (h u a)).1];rfl
  rw[this]
def fh(h:MI b v H=true):∃q,v = .sym q/\142<=q/\q<144/\H.blk.get b=some (.ints 3 (.sym q)):=by
 unfold MI at h
 cases hq:mX v with
 | none=>rw[hq]at h;cases h
 | some q=>
  rw[hq,ze]at h;obtain rfl:=uH hq;simp only[zl,Le,zK,zW,Lk]at h;obtain⟨⟨h1,h2⟩,h3⟩:=h
  cases hb:H.blk.get b with
  | none=>rw[hb]at h3;cases h3
  | some k=>
   rw[hb,ze]at h3
   cases a:pB k with
   | none=>rw[a]at h3;cases h3
   | some p=>
    rw[a,ze]at h3;simp only[Le,zA,Ll]at h3;obtain rfl:=mZ a;have c:=zV _ _ h3.2;refine⟨q,rfl,h1,h2,?_⟩;rw[h3.1,c]
def rV{g:Inj}(hv:iY val)(hlow:∀id,id<300->g id=B val id){c:G}(hc:aO H' c=true):Qc (XP val H' c):=by
 intro s hs;cases c<;>simp only[aO]at hc<;>first|(cases hc;done)|skip
 .cases hs
 .rename_i b o l cp ex;simp only[zl,Le]at hc;obtain⟨_,_,h3⟩:=hc
  cases d:H'.row b with
  | none=>rw[d]at h3;cases h3
  | some r=>
   rw[d,ze]at h3;obtain⟨_,_,_,i,cs,e,h⟩:=sM h3;simp only[XP,d,bind_some,e,LW,Ag]at hs;subst hs;have hl:=(M.jZ _ _ _ _ e).1;exact rR hv hlow hl i h
 .rename_i b v;simp only[zl,Le]at hc;obtain⟨q,rfl,h1,h2,_⟩:=fh hc.2;obtain⟨u,f,a⟩:=hv.st q h1 h2;simp only[XP,f,sOf,Ag]at hs;subst hs;exact a
def IL{γ:Inj}(hv:iY val)(h1:qS P 3=1)(hR:Rel P γ H' w2)(a:∀id x,300<=id->γ id=some x->w.heap.size<=x.1)(hlow:∀id,id<300->γ id=B val id){c:G}(hc:aO H' c=true)(hw:WF γ c) :
  aa P .i64 3 w w2 (((VL c).map γ.blk).getD 0) (J γ c) (XP val H' c):=by
 cases c<;>simp only[aO]at hc<;>first|(cases hc;done)|skip
 .rfl
 .rename_i b o l cp ex;simp only[zl,Le,zA,Ll,zK,Lk]at hc;obtain⟨rfl,h2,h3⟩:=hc
  cases h:H'.row b with
  | none=>rw[h]at h3;cases h3
  | some r=>
   rw[h,ze]at h3;obtain⟨j,e,T,a4,cs,p,Q⟩:=sM h3;have H:=ziT hv hlow Q;have f:=M.jZ _ _ _ _ p;simp only[XP,h,bind_some,p,LW,aa,VL,Ac]
   have:=cn (P:=P) (γ:=γ) (H':=H') (w:=w) (w2:=w2) (b:=b) (l:=l) (cp:=cp) (ex:=ex) (r:=r) (s:=elems val cs) (k:=.i64) hR h hw.1 (λx hx=>a b x h2 hx) (by rw[j];exact h1) e (by rw[Kk];exact f.1.symm) T (λi c hc=>by
    rw[mM]at hc;obtain⟨u,d,rfl⟩:=LU.1 hc;obtain⟨k1,k2⟩:=H u (LX d);have hi:i<l:=by have:=(LL.1 d).1;omega
    refine⟨u,?_,?_⟩
    .have:=f.2 i hi;rw[Lz]at this;rw[this];exact d
    .rw[k2,toNat_ofNat',AA I])
   rw[j]at this;exact this
 .rename_i b v;simp only[zl,Le,zK,Lk]at hc;obtain⟨q,rfl,q1,q2,hb⟩:=fh hc.2;obtain⟨u,d,t⟩:=hv.st q q1 q2;obtain⟨x,hx⟩:=LM.1 hw.1;obtain⟨arr,fz,j,e⟩:=hR.blk b _ x hb hx;have n:γ.blk b=x.1:=by simp[Inj.blk,hx]
  have z:γ.sh b=x.2.1:=by simp[Inj.sh,hx]
  have y:γ.ext b=x.2.2:=by simp[Inj.ext,hx]
  have m:J γ (.sym q) = .string u:=by
   have:J γ (.sym q)=J (B val) (.sym q):=by simp only[J,hlow q I]
   rw[this];exact zF I I d rfl
  simp only[XP,d,sOf,aa,VL,Ac,LW];refine⟨x,arr,fz,n.symm,?_,a b x hc.1 hx,j,?_,e.size,λi c hc=>e.cell i c (by rw[m];exact hc),e.thaw,h1⟩
  .rw[J,m];simp[sOf,Inj.addr,n,z,y]
  .obtain⟨s',g,hle⟩:=e.is;rw[m]at g;cases g;exact hle
def YR{γ:Inj}(hlow:∀id,id<300->γ id=B val id):∀ {l:List G},(∀v∈l,Yt 300 v=true)->WFs (B val) l->K γ l=K (B val) l
 | [],_,_=>rfl
 | a::l,h,hw=>by
  obtain⟨_,b⟩:=dx (β:=B val) (γ:=γ) hlow (h a LG) hw.1;rw[K,K,b,YR hlow (λv hv=>h v (LP _ hv)) hw.2]
def Ca{E:Env}(hF:Fit E)(hv:iY val)(hfacts:zJ E (B val))(hcl:zP E.tabs=true)(h1:qS E.P 3=1){args l1 l2:List G}{c d:G}
  (hrun:qL E (kh E fuel) f args (jt E 300)=some (.agg (l1++c::d::l2),H')) (hl1:∀v∈l1,Yt 300 v=true) (hl2:∀v∈l2,Yt 300 v=true) (hw1:WFs (B val) l1) (hw2:WFs (B val) l2)
  (hc:aO H' c=true) (hd:aO H' d=true) (i:Tl c d=true) (hargs:WFs (B val) args) :
  Qc (XP val H' c)/\Qc (XP val H' d)/\∀w,ql E.P E.tabs w->Calls E.P f (K (B val) args).toArray w λe w2=>Grown w w2/\∃v1 v2 b1 b2,b1≠b2 /\
   e = .returned (.agg (K (B val) l1++v1::v2::K (B val) l2).toArray)/\aa E.P .i64 3 w w2 b1 v1 (XP val H' c)/\aa E.P .i64 3 w w2 b2 v2 (XP val H' d):=by
 refine⟨rV hv (λ_ _=>rfl) hc,rV hv (λ_ _=>rfl) hd,λw hw=>?_⟩;refine(jC hF C Zx hfacts hcl hrun hargs hw).mono λe w2 hx=>?_;obtain⟨hg,a,rfl,H,Q,a3,a4⟩:=hx;have H:WFs a (l1++c::d::l2):=H;rw[qb]at H;have wc:WF a c:=H c Oc;have wd:WF a d:=H d Oc;have s1:=IL hv h1 a3 a4 Q hc wc;have s2:=IL hv h1 a3 a4 Q hd wd;refine⟨hg,J a c,J a d,?_⟩
 have z:J a (.agg (l1++c::d::l2)) = .agg (K (B val) l1++J a c::J a d::K (B val) l2).toArray:=by
  simp only[J];rw[Zd,K,K,YR Q hl1 hw1,YR Q hl2 hw2]
 rw[z]
 have free:∀ {x:G}{n:Nat},VL x=none->aa E.P .i64 3 w w2 n (J a x) (XP val H' x)->∀m,aa E.P .i64 3 w w2 m (J a x) (XP val H' x):=by
  intro x n hx h m;cases x<;>first|(cases hx;done)|exact h
 cases l:VL c with
 | none=>
  rw[l]at s1
  exact⟨_+1,_,succ_ne_self _,rfl,free l s1 _,s2⟩
 | some b=>
  cases j:VL d with
  | none=>
   rw[j]at s2
   exact⟨_,_+1,(succ_ne_self _).symm,rfl,s1,free j s2 _⟩
  | some b'=>
   rw[l]at s1;rw[j]at s2;refine⟨_,_,?_,rfl,s1,s2⟩;unfold Tl at i;rw[l,j,ze,ze,qW,zA]at i;have i:b≠b':=by simpa using i
   have at_:∀ {x:G}{n:Nat},VL x=some n->aO H' x=true->WF a x->∃k y,H'.blk.get n=some k/\a n=some y/\300<=n:=by
    intro x n hx g u;cases x<;>simp only[VL]at hx<;>first|(cases hx;done)|skip
    .cases hx;simp only[aO,zl,Le,zK,Lk]at g;obtain⟨_,g2,g3⟩:=g;obtain⟨y,p⟩:=LM.1 u.1
     cases hr:H'.row n with
     | none=>rw[hr]at g3;cases g3
     | some r=>
      obtain⟨k,hk,_⟩:=JG hr;exact⟨k,y,hk,p,g2⟩
    .cases hx;simp only[aO,zl,Le,zK,Lk]at g;obtain⟨q,rfl,_,_,hb⟩:=fh g.2;obtain⟨y,p⟩:=LM.1 u.1;exact⟨_,y,hb,p,g.1⟩
   obtain⟨k,y,hk,p,hge⟩:=at_ l hc wc;obtain⟨k',y',T,t,_⟩:=at_ j hd wd;intro e
   have e:y.1=y'.1:=by
    have e1:a.blk b=y.1:=by simp[Inj.blk,p]
    have e2:a.blk b'=y'.1:=by simp[Inj.blk,t]
    simp only[Ac,LW]at e;rw[<- e1,<- e2];exact e
   exact i (a3.QV (.inl I) hk p T t e)
end
end Go.AEv
