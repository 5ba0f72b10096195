/- A verified evaluator of Go code, and its soundness (EvSd). Conditions: those of each theorem. -/
import Derived.Test.YtaffhpgaagnjfaaGreatDoorEvSc
import Derived.RangeFuncIn
import Derived.RangeFuncRecord
import Derived.Laws.Externs
import Derived.Lib.MakeNoZero
import Derived.Lib.Bytealg
open List Nat Option Array Go.World
set_option linter.unusedSectionVars false
namespace Go.AEv
section
variable[Unk]
def RR(P:Program)(β:Inj)(H:Heap)(w:World)(v:zb)(H':Heap)(x:Value)(w':World):Prop:=
 ∃β',x=zc β' v/\WF β' v/\Rel P β' H' w'/\Ext β H w β' H' w'
def Res(P:Program)(m:Sem Next)(w:World)(R:Value->World->Prop):Prop:=
 ∃nx w1,m.run P w = .ok nx w1 /\
  match nx with
  | .value v=>R v w1
  | .skip=>R undef w1
  | .enter f args=>Calls P f args w1 fun e w2=>∃v,e = .returned v/\R v w2
  | .round l f tmps as bo=>∀c cs,∃v w2,R v w2/\Steps P (lone (Frame.round l f tmps as bo .normal) (c::cs) w1) (lone (c.finish v) cs w2)
  | _=>False
theorem zgS.res{P:Program}{a:Inj}{H H':Heap}{w:World}{m:Sem Next}{v:zb}(h:zgS P a H w m v H'):Res P m w (RR P a H w v H'):=by
 obtain⟨β',w',nx,h1,h2,h3,c,b⟩:=h;refine⟨nx,w',h1,?_⟩;rcases h2 with rfl|⟨rfl,rfl⟩
 .exact⟨β',rfl,h3,c,b⟩
 .exact⟨β',by simp,h3,c,b⟩
theorem Res.steps{P : Program}{b : Frame}{a : Act}{ops : Array Oper}{i : Nat}{rest : List Nat}{k : List Item}{cs : List Frame}{w : World}{o : Oper}{R : Value -> World -> Prop}
    (ho : ops[i]?=some o) (hw : Region.wanted o (yielded ops a.tmps) = true) (hd : ∀c, o.op ≠ .defer c) (h : Res P (execOp a.eval o) w R) :
    ∃v w', R v w' /\ Steps P (lone (b.atR a (.inRegion ops (i :: rest) :: k)) cs w) (lone (b.atR (a.put o.dst v) (.inRegion ops rest :: k)) cs w') := by
  obtain⟨nx, m, h1, h2⟩ := h;have j := stepGR_op (P := P) (b := b) (k := k) (cs := cs) (w := w) (rest := rest) ho hw;rw[Oper.semAt_eq _ _ _ hd] at j
  have g : ∀v, (b.atR a (.inRegion ops (i :: rest) :: k)).finish v = b.atR (a.put o.dst v) (.inRegion ops rest :: k) := by
    intro v; rw[Frame.finish_atR, ho]; rfl
  cases nx with
  | value v =>
    refine⟨v, m, h2, .one (step_lone_go ?_)⟩
    rw[j, <- g]; simp[stepG.apply, h1]
  | skip =>
    refine⟨undef, m, h2, .one (step_lone_go ?_)⟩
    rw[j, <- g]; simp[stepG.apply, h1]
  | enter f args =>
    obtain⟨e, w2, fr, ⟨v, rfl, hR⟩, hs, n, hl⟩ := h2 (b.atR a (.inRegion ops (i :: rest) :: k) :: cs)
    have d : step P (lone (b.atR a (.inRegion ops (i :: rest) :: k)) cs w) =
        .next (lone (Frame.enter P f args .normal) (b.atR a (.inRegion ops (i :: rest) :: k) :: cs) m) :=
      step_lone_go (by rw[j]; simp[stepG.apply, h1, Frame.atR])
    refine⟨v, w2, hR, .head d (Steps.trans hs ?_)⟩;rw[<- g]
    exact .one (step_leave_returned hl)
  | round l f tmps as p =>
    obtain⟨v, w2, hR, hs⟩ := h2 (b.atR a (.inRegion ops (i :: rest) :: k)) cs
    have d : step P (lone (b.atR a (.inRegion ops (i :: rest) :: k)) cs w) =
        .next (lone (Frame.round l f tmps as p .normal) (b.atR a (.inRegion ops (i :: rest) :: k) :: cs) m) :=
      step_lone_go (by rw[j]; simp[stepG.apply, h1, Frame.atR])
    refine⟨v, w2, hR, .head d ?_⟩;rw[<- g]
    exact hs
  | _ => exact h2.elim
theorem yh.at_{a:Inj}{n:Nat}{T:Tr zb}{arr:Array Value}(h:yh a n T arr)(i:Nat)(hi:zaZ (tv T i)=false):arr.getD i undef=zc a (tv T i):=((h.tmp i).known hi).2
theorem zdl{t:Nat}{T:Tr zb}{v:zb}(h:zmK t T=some v):tv T t=v/\zaZ v=false:=by
 unfold zmK at h;unfold tv
 cases a:T.get t with
 | none=>rw[a]at h;cases h;exact⟨rfl,rfl⟩
 | some u=>
  rw[a,zd,zl]at h;split at h
  .cases h
  .rename_i hn;cases h;exact⟨rfl,by simpa using hn⟩
theorem zjA(T:Tr zb)(d:Nat)(v:zb)(i:Nat):tv (T.set d v) i=if d=i then v else tv T i:=by
 unfold tv;rw[Tr.zK];split<;>rfl
theorem yh.set{a:Inj}{n:Nat}{T:Tr zb}{arr:Array Value}(h:yh a n T arr){d:Nat}(hd:d<n){v:zb}(hv:WF a v):yh a n (T.set d v) (arr.setIfInBounds d (zc a v)) where
 size:=by simpa using h.size
 tmp:=fun i=>by
  rw[zjA];have hs:=h.size;by_cases hi:d=i
  .subst hi;rw[if_pos rfl];refine .inr ⟨hv,?_⟩;simp[getD_eq_getD_getElem?,hs,hd]
  .rw[if_neg hi];have e:(arr.setIfInBounds d (zc a v)).getD i undef=arr.getD i undef:=by simp[getD_eq_getD_getElem?,hi]
   rw[e];exact h.tmp i
theorem zgq{E:Env}{b:Inj}{H:Heap}{n:Nat}{T:Tr zb}{a:Act}(h:yh b n T a.tmps)(i:Yv E b H){x:Operand}{v:zb}(hv:ev T x=some v):a.eval x=zc b v/\WF b v:=by
 cases x with
 | tmp t=>
  obtain⟨e,hn⟩:=zdl (t:=t) hv;obtain⟨g1,d⟩:=(h.tmp t).known (by rw[e];exact hn);rw[e]at g1 d
  exact⟨d,g1⟩
 | const c=>exact⟨((YD b 5000).1 c v hv).1.symm,((YD b 5000).1 c v hv).2⟩
 | global g=>
  have hv:ifB (blt g 60) (some (zb.ptr g 0)) none=some v:=hv;replace hv:=zg hv;obtain⟨h1,hv⟩:=hv;rw[zN,decide_eq_true_eq]at h1;cases hv;have hb:=i.at_ g (by omega);rw[Unk.glob g h1]at hb;refine⟨?_,by simp[WF,hb]⟩
  simp[Act.eval,zc,Inj.addr,Inj.blk,Inj.sh,hb]
 | func f=>
  cases hv;exact⟨rfl,trivial,trivial⟩
theorem zhV{E:Env}{b:Inj}{H:Heap}{n:Nat}{T:Tr zb}{a:Act}(h:yh b n T a.tmps)(c:Yv E b H)(l:Array Operand):Wz T b a.eval l:=
 fun _ _ _ hv=>zgq h c hv
theorem za8{T:Tr zb}{d:Tmp}(h:zh (T.get d) false Uj=false):zaZ (tv T d)=false/\zh (T.get d) false Ya=false:=by
 unfold tv
 cases a:T.get d with
 | none=>exact⟨rfl,rfl⟩
 | some v=>
  rw[a,zd]at h;unfold Uj at h;rw[zl]at h;split at h
  .cases h
  .rename_i hn;exact⟨by simpa using hn,h⟩
theorem zlj{e:Inj}{n:Nat}{T:Tr zb}{arr:Array Value}(h:yh e n T arr)(d:Tmp)(want:Bool)(hs:zh (T.get d) false Uj=false) :
  Uv T d want=((match arr[d]? with|some (.bool b)=>some b|_=>none)==some want):=by
 obtain⟨hn,hs⟩:=za8 hs;have a:=h.at_ d hn;rw[getD_eq_getD_getElem?]at a;unfold Uv
 cases c:T.get d with
 | none=>
  rw[show tv T d=jf by unfold tv;rw[c];rfl]at a;rw[zm]
  cases he:arr[d]? with
  | none=>rfl
  | some x=>
   rw[he]at a;have:x=undef:=by simpa using a
   subst this
   rfl
 | some v=>
  rw[show tv T d=v by unfold tv;rw[c];rfl]at a;rw[zd]
  cases hb:asBool v with
  | some b=>
   obtain rfl:=Qv hb;rw[zd]
   have:arr[d]?=some (.bool b):=by
    cases he:arr[d]? with
    | none=>rw[he]at a;simp[zc,undef]at a
    | some x=>rw[he]at a;simp[zc]at a;rw[a]
   rw[this,XG]
   cases b<;>cases want<;>rfl
  | none=>
   rw[zm]
   cases he:arr[d]? with
   | none=>rfl
   | some x=>
    rw[he]at a;have a:x=zc e v:=by simpa using a
    subst a;cases v<;>first|rfl|(cases hb;done)|(rename_i i;rw[c,zd]at hs;cases hs;done)
noncomputable def ZA(ops:List Oper)(T:Tr zb)(o:Oper):Bool:=match o.guard with|none=>true|some g=>Kk ops T g
theorem zng{a:Inj}{n:Nat}{T:Tr zb}{arr:Array Value}(h:yh a n T arr)(ops:Array Oper)(o:Oper)(hs:∀g,o.guard=some g->zfH ops.toList T g=false):Region.wanted o (yielded ops arr)=ZA ops.toList T o:=by
 unfold Region.wanted ZA
 cases c:o.guard with
 | none=>rfl
 | some g=>
  obtain⟨j,want⟩:=g;simp only[Kk,ye];unfold yielded;rw[getElem?_toList]
  cases b:ops[j]? with
  | none=>rfl
  | some q=>
   simp only[bind_some,zd]
   cases hq:q.dst with
   | none=>rfl
   | some d=>
    simp only[bind_some,zd];refine(zlj h d want ?_).symm;have h1:=hs _ c;simp only[zfH,ye]at h1;rw[getElem?_toList,b,zd,hq,zd]at h1;exact h1
theorem zgF{n:Nat}{dst:Option Tmp}{T:Tr zb}{v:zb}{f:Tr zb->jk}{r:jk}(h:zvi n dst T v f=r)(a:r≠.fail) :
  (dst=none/\f T=r)\/∃d,dst=some d/\d<n/\f (T.set d v)=r:=by
 cases dst with
 | none=>exact .inl ⟨rfl,h⟩
 | some d=>
  right;have h:ifB (blt d n) (f (T.set d v)) .fail=r:=h;rw[zl,zN]at h;split at h
  .rename_i hd;exact⟨d,rfl,by simpa using hd,h⟩
  .exact absurd h.symm a
theorem yh.put{b:Inj}{n:Nat}{T:Tr zb}{a:Act}(h:yh b n T a.tmps){dst:Option Tmp}{v:zb}(hv:WF b v){f:Tr zb->jk}{r:jk}(e:r≠.fail)(he:zvi n dst T v f=r) :
  ∃c,f c=r/\yh b n c (a.put dst (zc b v)).tmps:=by
 rcases zgF he e with⟨rfl,h1⟩|⟨d,rfl,hd,h1⟩
 .exact⟨T,h1,h⟩
 .exact⟨_,h1,h.set hd hv⟩
theorem put_defers(a:Act)(dst:Option Tmp)(v:Value):(a.put dst v).defers=a.defers:=by cases dst<;>rfl
end
section
theorem zqj{a b:Option zb}(h:oeq a b=true):a=b:=by
 cases a with
 | none=>cases b with
  | none=>rfl
  | some y=>cases h
 | some x=>cases b with
  | none=>cases h
  | some y=>rw[zM x y h]
theorem zfy:∀(t s:Tr zb),znj t s=true->t=s:=by
 intro t
 induction t with
 | nil=>intro s h;cases s with
  | nil=>rfl
  | node l v r=>cases h
 | node l v r b a=>
  intro s h
  cases s with
  | nil=>cases h
  | node l' c r'=>
   have h:zn (oeq v c) (zn (znj l l') (znj r r'))=true:=h;simp only[zk,Bool.and_eq_true]at h;rw[zqj h.1,b l' h.2.1,a r' h.2.2]
theorem zok:∀ {a b:UI},zkV a b=true->a=b:=by
 intro a
 induction a with
 | nil=>intro b h;cases b with
  | nil=>rfl
  | cons _ _=>cases h
 | cons e a c=>
  intro b h
  cases b with
  | nil=>cases h
  | cons d b=>
   have h:zn (zn (qs e.1 d.1) (zn (qs e.2.1 d.2.1) (Nat.beq e.2.2 d.2.2))) (zkV a b)=true:=h;simp only[zk,Bool.and_eq_true,zu,beq_iff_eq]at h;obtain⟨⟨h1,h2,h3⟩,f⟩:=h;have h1:=zM _ _ h1;rw[c f];obtain⟨j,i,g⟩:=e;obtain⟨d1,d2,d3⟩:=d;simp only at h1 h2 h3;rw[h1,zM _ _ h2,h3]
theorem yy{a b:zo}(h:Zh a b=true):a=b:=by
 unfold Zh at h;split at h
 .simp only[zk,Bool.and_eq_true,zu,beq_iff_eq]at h;obtain⟨h1,h2,h3⟩:=h;rw[h1,h2,zfy _ _ h3]
 .simp only[zk,Bool.and_eq_true,zu,beq_iff_eq]at h;rw[h.1,h.2.1,h.2.2]
 .simp only[zk,Bool.and_eq_true,zu,beq_iff_eq]at h;rw[zok h.1,h.2]
 .simp only[zk,Bool.and_eq_true,zu,beq_iff_eq]at h;rw[h.1,zM _ _ h.2]
 .simp only[zk,Bool.and_eq_true,zu,beq_iff_eq]at h;rw[h.1,zM _ _ h.2]
 .rw[zfy _ _ h]
 .cases h
theorem zaK:∀(t:Tr zb) (q:Pa),Yk q (XV t)=zh (Yk q t) none fun _=>some zsN:=by
 intro t
 induction t with
 | nil=>intro q;rw[JC];exact JC q
 | node l v r b a=>
  intro q;have e:XV (.node l v r) = .node (XV l) (zh v none fun _=>some zsN) (XV r):=rfl;rw[e]
  cases q with
  | e=>rfl
  | o q=>rw[QT,QT];exact b q
  | i q=>rw[QU,QU];exact a q
theorem zke:∀(t s:Tr zb) (q:Pa),Yk q (ZL t s)=zc5 (Yk q t) (Yk q s):=by
 intro t
 induction t with
 | nil=>
  intro s q;show Yk q (XV s)=_;rw[zaK,JC];unfold zc5
  cases Yk q s<;>rfl
 | node l v r b a=>
  intro s q
  cases s with
  | nil=>
   show Yk q (XV (.node l v r))=_;rw[zaK,JC];unfold zc5
   cases Yk q (.node l v r)<;>rfl
  | node l' c r'=>
   have e:ZL (.node l v r) (.node l' c r') = .node (ZL l l') (zc5 v c) (ZL r r'):=rfl;rw[e]
   cases q with
   | e=>rfl
   | o q=>rw[QT,QT,QT];exact b l' q
   | i q=>rw[QU,QU,QU];exact a r' q
theorem zod(t s:Tr zb)(i:Nat):(ZL t s).get i=zc5 (t.get i) (s.get i):=zke t s (path i)
theorem zte{a b:Option zo}(h:zwL a b=true):a=b:=by
 cases a with
 | none=>cases b with
  | none=>rfl
  | some y=>cases h
 | some x=>cases b with
  | none=>cases h
  | some y=>rw[yy (a:=x) (b:=y) h]
theorem ztO:∀(t s:Tr zo),ztP t s=true->t=s:=by
 intro t
 induction t with
 | nil=>intro s h;cases s with
  | nil=>rfl
  | node l v r=>cases h
 | node l v r b a=>
  intro s h
  cases s with
  | nil=>cases h
  | node l' c r'=>
   have h:zn (zwL v c) (zn (ztP l l') (ztP r r'))=true:=h;simp only[zk,Bool.and_eq_true]at h;rw[zte h.1,b l' h.2.1,a r' h.2.2]
theorem zgl{H H':Heap}(h:heq H H'=true):H=H':=by
 unfold heq at h;simp only[zk,Bool.and_eq_true,zu,beq_iff_eq]at h;obtain⟨b,n⟩:=H;obtain⟨b',a⟩:=H';rw[show n=a from h.1,ztO b b' h.2]
section
variable[Unk]
theorem zlO(t s:Tr zb)(i:Nat):zaZ (tv (ZL t s) i)=true\/(tv (ZL t s) i=tv t i/\tv (ZL t s) i=tv s i):=by
 unfold tv;rw[zod];unfold zc5;rw[zl];split
 .rename_i h;have:=zqj h;exact .inr ⟨rfl,by rw[this]⟩
 .exact .inl rfl
theorem yh.zis{a:Inj}{n:Nat}{T:Tr zb}{arr:Array Value}(h:yh a n T arr)(S:Tr zb):yh a n (ZL T S) arr where
 size:=h.size
 tmp:=fun i=>by
  rcases zlO T S i with e|⟨e,_⟩
  .exact .inl e
  .rw[e];exact h.tmp i
theorem yh.zir{a:Inj}{n:Nat}{T:Tr zb}{arr:Array Value}(h:yh a n T arr)(S:Tr zb):yh a n (ZL S T) arr where
 size:=h.size
 tmp:=fun i=>by
  rcases zlO S T i with e|⟨_,e⟩
  .exact .inl e
  .rw[e];exact h.tmp i
end
end
section
variable[Unk]
theorem Ext.range{a β':Inj}{H H':Heap}{w w':World}(h:Ext a H w β' H' w'){c:Nat}(e:zaA β' H' c):w.heap.size<=c\/zaA a H c:=by
 obtain⟨i,b,y,f,d,rfl⟩:=e;by_cases hi:i<H.next
 .obtain⟨b',g⟩:=h.gone i b hi f;exact .inr ⟨i,b',y,g,by rw[<- h.old i hi];exact d,rfl⟩
 .exact(h.new i y (by omega) d).imp id Range.all
theorem Ext.zpT{a β':Inj}{H H':Heap}{w w':World}(h:Ext a H w β' H' w'){c:Nat}(e:Range β' H' c):w.heap.size<=c\/Range a H c:=by
 obtain⟨i,b,y,g,f,d,rfl⟩:=e;by_cases hi:i<H.next
 .obtain⟨b',j⟩:=h.gone i b hi f;exact .inr ⟨i,b',y,g,j,by rw[<- h.old i hi];exact d,rfl⟩
 .exact h.new i y (by omega) d
structure zvs(fr:Fr)(b:Frame)(β:Inj):Prop where
 fn:b.fn=fr.fn
 kind:b.kind = .normal
 ro:b.roundOf=fr.ro.map β.blk
 mapped:∀l,fr.ro=some l->(β l).isSome
theorem zvs.mono{fr:Fr}{b:Frame}{β β':Inj}(h:zvs fr b β)(l:β.le β'):zvs fr b β' where
 fn:=h.fn
 kind:=h.kind
 ro:=by
  rw[h.ro]
  cases a:fr.ro with
  | none=>rfl
  | some x=>simp[Inj.blk,l.some (h.mapped x a)]
 mapped:=fun x hx=>by rw[l.some (h.mapped x hx)];exact h.mapped x hx
def Xh(r:Nat):Deferred:={ target:=.collected r,args:=#[] }
structure UH(B:Nat)(w:World)(β:Inj)(H:Heap)(rs:List Nat):Prop where
 nodup:rs.Nodup
 each:∀r∈rs,B<=r/\r<w.heap.size/\¬zaA β H r/\w.heap[r]?=some (.deferred (some []))
def Marks(B:Nat)(w:World)(β:Inj)(H:Heap)(D:List Deferred):Prop:=∃rs,D=rs.map Xh/\UH B w β H rs
theorem UH.ext{B:Nat}{w w':World}{a β':Inj}{H H':Heap}{rs:List Nat}(h:UH B w a H rs)(e:Ext a H w β' H' w'):UH B w' β' H' rs where
 nodup:=h.nodup
 each:=fun r d=>by
  obtain⟨g,c,b,f⟩:=h.each r d;refine⟨g,Nat.lt_of_lt_of_le c e.size,fun hx=>?_,by rw[e.frame r c fun q=>b q.all];exact f⟩;rcases e.range hx with h1|h1
  .omega
  .exact b h1
theorem Marks.ext{B:Nat}{w w':World}{a β':Inj}{H H':Heap}{D:List Deferred}(h:Marks B w a H D)(e:Ext a H w β' H' w'):Marks B w' β' H' D:=by
 obtain⟨rs,rfl,b⟩:=h;exact⟨rs,rfl,b.ext e⟩
structure UE(P:Program)(β:Inj)(H:Heap)(w:World)(fr:Fr)(B:Nat)(β':Inj)(H':Heap)(w':World)(T':Tr zb)(a':Act):Prop where
 rel:Rel P β' H' w'
 ext:Ext β H w β' H' w'
 tmp:yh β' fr.n T' a'.tmps
 marks:Marks B w' β' H' a'.defers
theorem UE.before{P : Program}{a β1 β' : Inj}{H H1 H' : Heap}{w b w' : World}{fr : Fr}{B : Nat}{d : Tr zb}{c : Act}(e : Ext a H w β1 H1 b)(h : UE P β1 H1 b fr B β' H' w' d c) :
    UE P a H w fr B β' H' w' d c := ⟨h.rel, e.trans h.ext, h.tmp, h.marks⟩
def Out(P:Program)(fr:Fr)(B:Nat)(β:Inj)(H:Heap)(w:World)(b:Frame)(k:List Item)(cs:List Frame)(m:Machine):jk->Prop
 | .fail=>True
 | .nrm T' H'=>∃β' w' a',UE P β H w fr B β' H' w' T' a'/\Steps P m (lone (b.atR a' k) cs w')
 | .ex id T' H'=>∃β' w' a' k1,UE P β H w fr B β' H' w' T' a'/\exitTo id k1=exitTo id k/\Steps P m (lone (b.atR a' (.code (.exit id)::k1)) cs w')
 | .ret T' H'=>∃β' w' a' k1,UE P β H w fr B β' H' w' T' a'/\Steps P m (lone (b.atR a' (.code .ret::k1)) cs w')
theorem Out.steps{P:Program}{fr:Fr}{B:Nat}{d:Inj}{H:Heap}{w:World}{b:Frame}{k:List Item}{cs:List Frame}{m e:Machine}{r:jk}(s:Steps P m e)(h:Out P fr B d H w b k cs e r) :
  Out P fr B d H w b k cs m r:=by
 cases r with
 | fail=>trivial
 | nrm T H=>obtain⟨β',w',a,h1,h2⟩:=h;exact⟨β',w',a,h1,s.trans h2⟩
 | ex id T H=>obtain⟨β',w',a,c,h1,f,h2⟩:=h;exact⟨β',w',a,c,h1,f,s.trans h2⟩
 | ret T H=>obtain⟨β',w',a,c,h1,h2⟩:=h;exact⟨β',w',a,c,h1,s.trans h2⟩
theorem Out.before{P:Program}{fr:Fr}{B:Nat}{d β1:Inj}{H H1:Heap}{w f:World}{b:Frame}{k:List Item}{cs:List Frame}{m:Machine}{r:jk}(e:Ext d H w β1 H1 f)
  (h:Out P fr B β1 H1 f b k cs m r):Out P fr B d H w b k cs m r:=by
 cases r with
 | fail=>trivial
 | nrm T H=>obtain⟨β',w',a,h1,h2⟩:=h;exact⟨β',w',a,h1.before e,h2⟩
 | ex id T H=>obtain⟨β',w',a,c,h1,h2⟩:=h;exact⟨β',w',a,c,h1.before e,h2⟩
 | ret T H=>obtain⟨β',w',a,c,h1,h2⟩:=h;exact⟨β',w',a,c,h1.before e,h2⟩
structure At(E:Env)(fr:Fr)(B:Nat)(T:Tr zb)(H:Heap)(β:Inj)(w:World)(b:Frame)(a:Act):Prop where
 rel:Rel E.P β H w
 glob:Yv E β H
 frame:zvs fr b β
 tmp:yh β fr.n T a.tmps
 marks:Marks B w β H a.defers
 base:B<=w.heap.size
theorem UE.at_{E:Env}{c β':Inj}{H H':Heap}{w w':World}{fr:Fr}{B:Nat}{T e:Tr zb}{b:Frame}{a d:Act}(h:At E fr B T H c w b a)(p:UE E.P c H w fr B β' H' w' e d) :
  At E fr B e H' β' w' b d:=
 ⟨p.rel,h.glob.ext h.rel.bnd p.ext,h.frame.mono (p.ext.le h.rel.bnd),p.tmp,p.marks,Nat.le_trans h.base p.ext.size⟩
theorem At.post{E:Env}{c:Inj}{H:Heap}{w:World}{fr:Fr}{B:Nat}{T:Tr zb}{b:Frame}{a:Act}(h:At E fr B T H c w b a):UE E.P c H w fr B c H w T a:=
 ⟨h.rel,.refl _ _ _ h.rel.bnd,h.tmp,h.marks⟩
def UG(E:Env)(rec:Rec):Prop:=
 ∀(β:Inj) (H:Heap) (w:World) (T:Tr zb) (o:Oper) (ρ:Operand->Value) (v:zb) (H':Heap),Rel E.P β H w->Yv E β H->Wz T β ρ o.op.operands->aop o.op E rec T H=some (v,H') ->
  Res E.P (execOp ρ o) w (RR E.P β H w v H')
theorem zav{E:Env}{rec:Rec}{T:Tr zb}{H:Heap}{o:Op}{r:zb×Heap}(h:aop o E rec T H=some r):∀c,o≠.defer c:=by
 intro c e;subst e;cases h
section
variable{E:Env}
theorem zjj{rec:Rec}(g:UG E rec){fr:Fr}{B:Nat}{T:Tr zb}{H:Heap}{e:Inj}{w:World}{b:Frame}{a:Act}(c:At E fr B T H e w b a)
  {ops:Array Oper}{i:Nat}{rest:List Nat}{k:List Item}{cs:List Frame}{o:Oper} (ho:ops[i]?=some o) (hw:Region.wanted o (yielded ops a.tmps)=true)
  {K:zgT}{r:jk} (he:zft E rec fr.n o T H K=r) (hr:r≠.fail) :
  ∃d H' β' w' f,K d H'=r/\UE E.P e H w fr B β' H' w' d f/\Steps E.P (lone (b.atR a (.inRegion ops (i::rest)::k)) cs w) (lone (b.atR f (.inRegion ops rest::k)) cs w'):=by
 unfold zft at he
 cases hx:aop o.op E rec T H with
 | none=>rw[hx]at he;exact absurd he.symm hr
 | some p=>
  rw[hx,zd]at he;obtain⟨v,H'⟩:=p;obtain⟨x,w',⟨β',rfl,h1,h2,h3⟩,hs⟩:=(g e H w T o a.eval v H' c.rel c.glob (zhV c.tmp c.glob _) hx).steps (b:=b) (rest:=rest) (k:=k) (cs:=cs) ho hw (zav hx);obtain⟨d,j,h⟩:=yh.put (c.tmp.mono (h3.le c.rel.bnd)) h1 hr he;exact⟨d,H',β',w',_,j,⟨h2,h3,h,by rw[put_defers];exact c.marks.ext h3⟩,hs⟩
theorem zvl{rec:Rec}(j:UG E rec){fr:Fr}{B:Nat}{T:Tr zb}{H:Heap}{h:Inj}{w:World}{b:Frame}{a:Act}(c:At E fr B T H h w b a)
  {ops:Array Oper}{i:Nat}{rest:List Nat}{k:List Item}{cs:List Frame}{o:Oper} (ho:ops[i]?=some o)
  {K:zgT}{r:jk} (he:zbr E rec fr.n ops.toList o K T H=r) (hr:r≠.fail) :
  ∃f H' β' w' m,K f H'=r/\UE E.P h H w fr B β' H' w' f m/\Steps E.P (lone (b.atR a (.inRegion ops (i::rest)::k)) cs w) (lone (b.atR m (.inRegion ops rest::k)) cs w'):=by
 have e:∀g,o.guard=some g->zfH ops.toList T g=false:=by
  intro g d;unfold zbr at he;rw[d,zd,zl]at he;split at he
  .exact absurd he.symm hr
  .rename_i hs;simpa using hs
 have hq:=zng c.tmp ops o e;unfold ZA at hq;unfold zbr at he
 cases d:o.guard with
 | none=>
  rw[d]at he hq
  exact zjj j c ho hq he hr
 | some g=>
  rw[d,zd,zl,if_neg (by rw[e g d];decide),zl]at he;rw[d]at hq;split at he
  .rename_i hw;exact zjj j c ho (hq.trans hw) he hr
  .rename_i hw;have hw:Region.wanted o (yielded ops a.tmps)=false:=by rw[hq];simpa using hw
   have hs:=stepR_op_skip (P:=E.P) (b:=b) (a:=a) (k:=k) (cs:=cs) (w:=w) (ops:=ops) (i:=i) (rest:=rest) (by rw[ho];simpa using hw);rw[ho]at hs;simp only[bind_some]at hs;obtain⟨f,p,l⟩:=yh.put c.tmp (v:=jf) (by simp) hr he;rw[Xx]at l;exact⟨f,H,h,w,_,p,⟨c.rel,.refl _ _ _ c.rel.bnd,l,by rw[put_defers];exact c.marks⟩,.one hs⟩
theorem zvj{rec:Rec}(o:UG E rec){fr:Fr}{B:Nat}{b:Frame}{ops:Array Oper}{k:List Item}{cs:List Frame}:∀(m i:Nat) (T:Tr zb) (H:Heap) (c:Inj) (w:World) (a:Act),
  At E fr B T H c w b a->i+m=ops.size ->
  Out E.P fr B c H w b k cs (lone (b.atR a (.inRegion ops (List.range' i m)::k)) cs w) (zvk E rec fr.n ops.toList (ops.toList.drop i) T H):=by
 intro m
 induction m with
 | zero=>
  intro i T H c w a d e;have hd:ops.toList.drop i=[]:=drop_eq_nil_of_le (by simp;omega);rw[hd]
  exact⟨c,w,a,d.post,.one stepR_region_end⟩
 | succ m h=>
  intro i T H c w a d e;have hi:i<ops.toList.length:=by simp;omega
  rw[drop_eq_getElem_cons hi,List.range'_succ];have l:ops[i]?=some ops.toList[i]:=by rw[<- getElem?_toList];exact List.getElem?_eq_getElem hi
  generalize j:zvk E rec fr.n ops.toList (ops.toList[i]::ops.toList.drop (i+1)) T H=r;have he:zbr E rec fr.n ops.toList ops.toList[i] (zvk E rec fr.n ops.toList (ops.toList.drop (i+1))) T H=r:=j;by_cases f:r = .fail
  .rw[f];trivial
  .obtain⟨v,H',β',w',u,t,g,p⟩:=zvl o d (rest:=List.range' (i+1) m) (k:=k) (cs:=cs) l he f;have:=h (i+1) v H' β' w' u (g.at_ d) (by omega);rw[t]at this;exact(this.before g.ext).steps p
def zxD(it:Item)(c:Code):Prop:=it = .code c\/∃d,c = .loop d/\it = .inLoop d
def zgY(E:Env)(fr:Fr)(c:Code)(run:Tr zb->Heap->jk):Prop:=
 ∀(T:Tr zb) (H:Heap) (β:Inj) (w:World) (b:Frame) (a:Act) (k:List Item) (cs:List Frame) (B:Nat) (it:Item),zxD it c->At E fr B T H β w b a ->
  Out E.P fr B β H w b k cs (lone (b.atR a (it::k)) cs w) (run T H)
def Wy(E:Env)(rec:Rec):Prop:=∀fr c,zgY E fr c (rec fr c)
def zlG(E:Env)(rec:Rec):Prop:=∀fr id ops,zgY E fr (.region id ops true) (fun T H=>zjk E rec fr.n ops.toList T H)
def zgV(E:Env)(rec:Rec):Prop:=∀fr f ps as bo,zgY E fr (.rangeFunc f ps as bo) (fun T H=>zcZ f ps as bo E rec fr T H)
theorem Out.zis{P:Program}{fr:Fr}{B:Nat}{a:Inj}{H:Heap}{w:World}{b:Frame}{k:List Item}{cs:List Frame}{m:Machine}{r:jk}(h:Out P fr B a H w b k cs m r)(s:jk):Out P fr B a H w b k cs m (zmv r s):=by
 cases r<;>cases s<;>try trivial
 .rename_i f H1 d g;show Out P fr B a H w b k cs m (ifB (heq H1 g) (.nrm (ZL f d) H1) .fail);rw[zl];split
  .obtain⟨β',w',c,p,s⟩:=h;exact⟨β',w',c,⟨p.rel,p.ext,p.tmp.zis _,p.marks⟩,s⟩
  .trivial
 .rename_i i f H1 j d g;show Out P fr B a H w b k cs m (ifB (zn (Nat.beq i j) (heq H1 g)) (.ex i (ZL f d) H1) .fail);rw[zl];split
  .obtain⟨β',w',c,l,p,e,s⟩:=h;exact⟨β',w',c,l,⟨p.rel,p.ext,p.tmp.zis _,p.marks⟩,e,s⟩
  .trivial
 .rename_i f H1 d g;show Out P fr B a H w b k cs m (ifB (heq H1 g) (.ret (ZL f d) H1) .fail);rw[zl];split
  .obtain⟨β',w',c,l,p,s⟩:=h;exact⟨β',w',c,l,⟨p.rel,p.ext,p.tmp.zis _,p.marks⟩,s⟩
  .trivial
theorem Out.zir{P:Program}{fr:Fr}{B:Nat}{a:Inj}{H:Heap}{w:World}{b:Frame}{k:List Item}{cs:List Frame}{m:Machine}{r:jk}(h:Out P fr B a H w b k cs m r)(s:jk):Out P fr B a H w b k cs m (zmv s r):=by
 cases s<;>cases r<;>try trivial
 .rename_i f H1 d g;show Out P fr B a H w b k cs m (ifB (heq H1 g) (.nrm (ZL f d) H1) .fail);rw[zl];split
  .rename_i hh;obtain rfl:=zgl hh;obtain⟨β',w',c,p,s⟩:=h;exact⟨β',w',c,⟨p.rel,p.ext,p.tmp.zir _,p.marks⟩,s⟩
  .trivial
 .rename_i i f H1 j d g;show Out P fr B a H w b k cs m (ifB (zn (Nat.beq i j) (heq H1 g)) (.ex i (ZL f d) H1) .fail);rw[zl];split
  .rename_i hh;rw[zk,Bool.and_eq_true,zu,beq_iff_eq]at hh;obtain⟨rfl,hh⟩:=hh;obtain rfl:=zgl hh;obtain⟨β',w',c,l,p,e,s⟩:=h;exact⟨β',w',c,l,⟨p.rel,p.ext,p.tmp.zir _,p.marks⟩,e,s⟩
  .trivial
 .rename_i f H1 d g;show Out P fr B a H w b k cs m (ifB (heq H1 g) (.ret (ZL f d) H1) .fail);rw[zl];split
  .rename_i hh;obtain rfl:=zgl hh;obtain⟨β',w',c,l,p,s⟩:=h;exact⟨β',w',c,l,⟨p.rel,p.ext,p.tmp.zir _,p.marks⟩,s⟩
  .trivial
theorem zci{P:Program}{fr:Fr}{B:Nat}{c:Inj}{H:Heap}{w:World}{b:Frame}{k:List Item}{cs:List Frame}{m:Machine}{run:List Fact->jk}:∀(l:List (List Fact)) {f:List Fact},f∈l ->
  Out P fr B c H w b k cs m (run f)->Out P fr B c H w b k cs m (WI run l)
 | [],_,a,_=>by cases a
 | g::l,f,a,h=>by
  show Out P fr B c H w b k cs m (lC l (run g) fun _ _=>zmv (run g) (WI run l))
  cases l with
  | nil=>
   rw[List.mem_singleton]at a;subst a
   exact h
  | cons x l=>
   rw[ZK];rcases List.mem_cons.1 a with rfl|a
   .exact h.zis _
   .exact(zci (x::l) a h).zir _
def zlI(E:Env):Prop:=∀(fr:Fr) (x:Code) (l:List (List Fact)) (T:Tr zb) (H:Heap) (β:Inj) (w:World) (b:Frame) (a:Act) (k:List Item) (cs:List Frame) (B:Nat),Ww E fr.fn T=some l->At E fr B T H β w b a ->
 ∃f∈l,Out E.P fr B β H w b k cs (lone (b.atR a (.code x::k)) cs w) (Q3 x (E.plus f) ZP fr T H)
theorem zlB(h:E.alts = .nil):zlI E:=by
 intro fr x l T H c w b a k cs B hl;unfold Ww at hl;rw[h,Tr.get_nil]at hl;cases hl
theorem zjo{rec:Rec}(K:UG E rec)(M:zlG E rec)(L:zgV E rec)(hR:Wy E rec)(C:zlI E)(fr:Fr)(c:Code):zgY E fr c (fun T H=>Q3 c E rec fr T H):=by
 induction c with
 | skip=>
  intro T H i w b a k cs B it g m;obtain rfl:it = .code .skip:=by rcases g with h|⟨d,h,_⟩;exact h;cases h
  exact⟨i,w,a,m.post,.one stepR_skip⟩
 | region id ops d=>
  intro T H i w b a k cs B it g m
  cases d with
  | true=>exact M fr id ops T H i w b a k cs B it g m
  | false=>
   obtain rfl:it = .code (.region id ops false):=by rcases g with h|⟨d,h,_⟩;exact h;cases h
   have:=zvj K (b:=b) (ops:=ops) (k:=k) (cs:=cs) ops.size 0 T H i w a m (by omega);rw[drop_zero,<- List.range_eq_range']at this
   exact this.steps (.one stepR_region)
 | seq x y t r=>
  intro T H i w b a k cs B it g m;obtain rfl:it = .code (.seq x y):=by rcases g with h|⟨d,h,_⟩;exact h;cases h
  have h1:=t T H i w b a (.code y::k) cs B _ (.inl rfl) m;refine Out.steps (.one stepR_seq) ?_;show Out E.P fr B i H w b k cs _ (@jk.rec (fun _=>jk) .fail (fun T H=>Q3 y E rec fr T H) (fun id T H=>.ex id T H) (fun T H=>.ret T H) (Q3 x E rec fr T H))
  cases hx:Q3 x E rec fr T H with
  | fail=>trivial
  | nrm o H1=>
   simp only[hx]at h1;obtain⟨β',w',n,p,s⟩:=h1
   exact((r o H1 β' w' b n k cs B _ (.inl rfl) (p.at_ m)).before p.ext).steps s
  | ex id o H1=>
   simp only[hx]at h1;obtain⟨β',w',n,u,p,e,s⟩:=h1
   exact⟨β',w',n,u,p,e.trans (by simp[exitTo]),s⟩
  | ret o H1=>
   simp only[hx]at h1
   exact h1
 | cond c x y t r=>
  intro T H i w b a k cs B it g m;obtain rfl:it = .code (.cond c x y):=by rcases g with h|⟨d,h,_⟩;exact h;cases h
  show Out E.P fr B i H w b k cs _ (zh (ev T c) .fail fun v=>zh (asBool v) .fail fun q=>ifB q (Q3 x E rec fr T H) (Q3 y E rec fr T H))
  cases hc:ev T c with
  | none=>trivial
  | some v=>
   rw[zd]
   cases hb:asBool v with
   | none=>trivial
   | some q=>
    obtain rfl:=Qv hb;rw[zd];have he:=(zgq m.tmp m.glob hc).1;refine Out.steps (.one (stepR_cond he)) ?_
    cases q with
    | true=>exact t T H i w b a k cs B _ (.inl rfl) m
    | false=>exact r T H i w b a k cs B _ (.inl rfl) m
 | block id x z=>
  intro T H i w b a k cs B it g m;obtain rfl:it = .code (.block id x):=by rcases g with h|⟨d,h,_⟩;exact h;cases h
  have h1:=z T H i w b a (.inBlock id::k) cs B _ (.inl rfl) m;refine Out.steps (.one stepR_block) ?_;show Out E.P fr B i H w b k cs _ (@jk.rec (fun _=>jk) .fail (fun T H=>.nrm T H) (fun j T H=>ifB (Nat.beq j id) (.nrm T H) (.ex j T H)) (fun T H=>.ret T H) (Q3 x E rec fr T H))
  cases hx:Q3 x E rec fr T H with
  | fail=>trivial
  | nrm o H1=>
   simp only[hx]at h1;obtain⟨β',w',n,p,s⟩:=h1
   exact⟨β',w',n,p,s.trans (.one stepR_inBlock)⟩
  | ex j o H1=>
   simp only[hx]at h1;obtain⟨β',w',n,u,p,e,s⟩:=h1;simp only[zl,zu];by_cases A:j=id
   .subst A;rw[if_pos (by simp)];have e:exitTo j u=some k:=by rw[e];simp[exitTo]
    exact⟨β',w',n,p,s.trans (.one (stepR_exit e))⟩
   .rw[if_neg (by simpa using A)];refine⟨β',w',n,u,p,?_,s⟩
    rw[e,exitTo,if_neg (by simpa using fun h=>A h.symm)]
  | ret o H1=>
   simp only[hx]at h1
   exact h1
 | loop x z=>
  intro T H i w b a k cs B it g m
  have h1:Out E.P fr B i H w b (.inLoop x::k) cs (lone (b.atR a (.code x::.inLoop x::k)) cs w) (zh (Ww E fr.fn T) (Q3 x E rec fr T H) fun l=>WI (fun f=>Q3 x (E.plus f) ZP fr T H) l):=by
   cases hl:Ww E fr.fn T with
   | none=>exact z T H i w b a (.inLoop x::k) cs B _ (.inl rfl) m
   | some l=>
    obtain⟨f,J,h⟩:=C fr x l T H i w b a (.inLoop x::k) cs B hl m;exact zci l J h
  have hs:Steps E.P (lone (b.atR a (it::k)) cs w) (lone (b.atR a (.code x::.inLoop x::k)) cs w):=by
   rcases g with rfl|⟨d,h,rfl⟩
   .exact .one stepR_loop
   .cases h;exact .one stepR_inLoop
  refine Out.steps hs ?_;show Out E.P fr B i H w b k cs _ (zmq x rec fr (zh (Ww E fr.fn T) (Q3 x E rec fr T H) fun l=>WI (fun f=>Q3 x (E.plus f) ZP fr T H) l))
  cases hx:(zh (Ww E fr.fn T) (Q3 x E rec fr T H) fun l=>WI (fun f=>Q3 x (E.plus f) ZP fr T H) l) with
  | fail=>trivial
  | nrm o H1=>
   simp only[hx]at h1;obtain⟨β',w',n,p,s⟩:=h1
   exact((hR fr (.loop x) o H1 β' w' b n k cs B _ (.inr ⟨x,rfl,rfl⟩) (p.at_ m)).before p.ext).steps s
  | ex j o H1=>
   simp only[hx]at h1;obtain⟨β',w',n,u,p,e,s⟩:=h1
   exact⟨β',w',n,u,p,e.trans (by simp[exitTo]),s⟩
  | ret o H1=>
   simp only[hx]at h1
   exact h1
 | rangeFunc f D as N I G=>exact L fr f D as N
 | exit id=>
  intro T H i w b a k cs B it g m;obtain rfl:it = .code (.exit id):=by rcases g with h|⟨d,h,_⟩;exact h;cases h
  exact⟨i,w,a,k,m.post,rfl,.refl _ _⟩
 | goto l=>intro T H i w b a k cs B it g m;trivial
 | label l=>
  intro T H i w b a k cs B it g m;obtain rfl:it = .code (.label l):=by rcases g with h|⟨d,h,_⟩;exact h;cases h
  exact⟨i,w,a,m.post,.one stepR_label⟩
 | scope x z=>intro T H i w b a k cs B it g m;trivial
 | ret=>
  intro T H i w b a k cs B it g m;obtain rfl:it = .code .ret:=by rcases g with h|⟨d,h,_⟩;exact h;cases h
  exact⟨i,w,a,k,m.post,.refl _ _⟩
 | refuse s=>intro T H i w b a k cs B it g m;trivial
theorem zR{a:Type}{x:a}:∀ {l m:List a},x∈zP l m->x∈l\/x∈m:=by
 intro l m h;rw[zT]at h;exact List.mem_append.1 h
theorem zoL(h:∀f,UG (E.plus f) ZP/\zlG (E.plus f) ZP/\zgV (E.plus f) ZP):zlI E:=by
 intro fr x l T H j w b a k cs B hl c;unfold Ww at hl;replace hl:=ze hl;obtain⟨q,hq,hl⟩:=hl;replace hl:=ze hl;obtain⟨i,_,hl⟩:=hl;rw[ye]at hl;obtain⟨f,m,hfacts⟩:=c.glob.alts fr.fn q hq i l hl;refine⟨f,m,?_⟩;obtain⟨h1,h2,h3⟩:=h f;have e:At (E.plus f) fr B T H j w b a:=⟨c.rel,⟨c.glob.at_,c.glob.next,fun g d=>(zR d).elim (fun d=>hfacts g d) fun d=>c.glob.facts g d,c.glob.tabs,QG rfl⟩,c.frame,c.tmp,c.marks,c.base⟩
 exact zjo (E:=E.plus f) h1 h2 h3 (fun _ _ _ _ _ _ _ _ _ _ _ _ _ _=>trivial) (zlB rfl) fr x T H j w b a k cs B _ (.inl rfl) e
end
end
section
variable[Unk]
theorem Rel.untrack{P:Program}{β:Inj}{H:Heap}{w w':World}(hR:Rel P β H w)(h:∀c,zaA β H c->w'.heap[c]?=w.heap[c]?):Rel P β H w' where
 base:=hR.base
 blk:=fun id b x h1 h2=>(hR.blk id b x h1 h2).heap (h _ ⟨id,b,x,h1,h2,rfl⟩)
 inj:=hR.inj
 bnd:=hR.bnd
 live:=hR.live
def XH (P:Program):Prop:=∀(f:FuncId) (fn:Func),P.funcs[f]?=some fn->(fn.name == "runtime.NumGoroutine")=false
def znB(arr:Array Value)(r:ResultVar):Sem Value:=
 match r with
 | .tmp t=>pure (arr.getD t undef)
 | .cell a t=>do Go.loadVar t (<- asAddr (arr.getD a undef))
theorem zj6(fn:Func)(arr:Array Value):results fn arr=(do
  let vs <- fn.results.mapM (znB arr)
  pure (if h:vs.size=1 then vs[0] else .tuple vs)):=by
 have:znB arr=(fun
  | .tmp t=>pure (arr.getD t undef)
  | .cell a t=>do Go.loadVar t (<- asAddr (arr.getD a undef)):ResultVar->Sem Value):=by funext r;cases r<;>rfl
 rw[this];rfl
section
variable{E:Env}(hE:yg E)
include hE
theorem zls{β:Inj}{H:Heap}{w:World}{n:Nat}{T:Tr zb}{arr:Array Value}(hR:Rel E.P β H w)(d:yh β n T arr){r:ResultVar}{v:zb}(h:zm0 r E T H=some v) :
  WF β v/\(znB arr r).run E.P w = .ok (zc β v) w:=by
 cases r with
 | tmp t=>
  obtain⟨e,hn⟩:=zdl (t:=t) h;obtain⟨g1,f⟩:=(d.tmp t).known (by rw[e];exact hn);rw[e]at g1 f
  exact⟨g1,by simp only[znB];rw[f];simp⟩
 | cell a t=>
  have h:(bnd (T.get a) fun v=>bnd (Yg v) fun p=>E.loadVar H t p.1 p.2)=some v:=h;replace h:=ze h;obtain⟨u,g,h⟩:=h;replace h:=ze h;obtain⟨p,hp,h⟩:=h;obtain rfl:=yz hp;have b:tv T a = .ptr p.1 p.2:=by unfold tv;rw[g];rfl
  obtain⟨t1,t2⟩:=(d.tmp a).known (by rw[b];rfl);rw[b]at t1 t2;obtain⟨l1,l2⟩:=hR.loadVar hE h t1;refine⟨l1,?_⟩;simp only[znB,t2,zc,asAddr,Sem.run_bind,Sem.run_pure,Result.andThen_ok,l2]
theorem zjd{β:Inj}{H:Heap}{w:World}{n:Nat}{T:Tr zb}{arr:Array Value}(hR:Rel E.P β H w)(d:yh β n T arr):∀(rs:List ResultVar) (l:List zb),zje E T H rs=some l ->
  WFs β l/\(rs.mapM (znB arr)).run E.P w = .ok (zf β l) w:=by
 intro rs
 induction rs with
 | nil=>intro l h;cases h;exact⟨trivial,by simp[zf]⟩
 | cons r rs ih=>
  intro l h;replace h:=ze h;obtain⟨a,b,h⟩:=h;replace h:=ze h;obtain⟨m,hm,h⟩:=h;cases h;obtain⟨g1,i⟩:=zls hE hR d b;obtain⟨g,f⟩:=ih m hm;refine⟨⟨g1,g⟩,?_⟩;rw[mapM_cons];simp only[Sem.run_bind,i,Result.andThen_ok,f,Sem.run_pure,zf]
theorem zq4{β:Inj}{H H':Heap}{w:World}{n:Nat}{T:Tr zb}{arr:Array Value}(hR:Rel E.P β H w)(d:yh β n T arr){fn:Func}{v:zb}(h:leave E fn T H=some (v,H')) :
  H'=H/\WF β v/\(results fn arr).run E.P w = .ok (zc β v) w:=by
 replace h:=ze h;obtain⟨l,hl,h⟩:=h;cases h;obtain⟨g1,f⟩:=zjd hE hR d _ _ hl;refine⟨rfl,?_,?_⟩
 .unfold one
  cases l with
  | nil=>simp[WF,WFs]
  | cons a m=>
   cases m with
   | nil=>exact g1.1
   | cons b m=>exact g1
 .rw[zj6,Sem.run_bind,mapM_eq_mapM_toList,Sem.run_map,f];simp only[Result.andThen_ok]
  cases l with
  | nil=>simp[one,zc,zf]
  | cons a m=>
   cases m with
   | nil=>simp[one,zf]
   | cons b m=>simp[one,zc,zf]
omit hE in
theorem unwind_ok{P:Program}{β:Inj}{H:Heap}{B:Nat}{fr:Frame}{cs:List Frame}(hm:fr.mode = .returning):∀(rs:List Nat) (w:World),UH B w β H rs->fr.defers=rs.map Xh ->
  ∃w',Steps P (lone fr cs w) (lone { fr with defers:=[] } cs w')/\(∀c,(c<B\/zaA β H c)->w'.heap[c]?=w.heap[c]?)/\w'.heap.size=w.heap.size/\w'.tape=w.tape/\w'.os=w.os/\w'.output=w.output:=by
 intro rs
 induction rs generalizing fr with
 | nil=>
  intro w _ hd;refine⟨w,?_,fun _ _=>rfl,rfl,rfl,rfl,rfl⟩;have:{ fr with defers:=[] }=fr:=by cases fr;simp at hd;subst hd;rfl
  rw[this]
  exact .refl _ _
 | cons r rs ih=>
  intro w h hd;obtain⟨a1,a2,a3,a4⟩:=h.each r (by simp);have ht:=run_takeDeferred (P:=P) a4
  have hs:step P (lone fr cs w) = .next (lone { fr with defers:=rs.map Xh } cs (w.putObj r (.deferred none))):=by
   refine step_lone_go ?_;simp only[stepG,hm];simp[unwind,hd,Xh,Sem.runT_eq,ht,GStep.bare_after];exact hm
  have hne:∀c,c≠r->(w.putObj r (.deferred none)).heap[c]?=w.heap[c]?:=by
   intro c hc;simp only[World.putObj,getElem?_setIfInBounds];rw[if_neg (fun e=>hc e.symm)]
  have hnd:=h.nodup;rw[nodup_cons]at hnd
  obtain⟨w',s,k1,k2,k3,k4,k5⟩:=ih (fr:={ fr with defers:=rs.map Xh }) hm (w.putObj r (.deferred none))
   ⟨hnd.2,fun r' hr'=>by
    obtain⟨b1,b2,b3,b4⟩:=h.each r' (by simp[hr']);refine⟨b1,by simpa[World.putObj] using b2,b3,?_⟩;rw[hne r' fun e=>hnd.1 (by rw[<- e];exact hr')]
    exact b4⟩ rfl
  refine⟨w',.head hs s,fun c hc=>?_,by rw[k2];simp[World.putObj],k3,k4,k5⟩;rw[k1 c hc,hne];rintro rfl
  rcases hc with hc|hc
  .omega
  .exact a3 hc
theorem zoO{β:Inj}{args:List zb}(h:WFs β args)(a:Nat) :
  yh β (zia a (qS args 0)) (Tr.ofList args) ((zf β args).toArray++Array.replicate (a-(zf β args).toArray.size) undef) where
 size:=by
  have _:=hE
  have hm:zia a args.length=max a args.length:=by
   unfold zia;rw[zl,zG];by_cases h:a<=args.length
   .rw[if_pos (by simp[h])];omega
   .rw[if_neg (by simp[h])];omega
  rw[jE,hm];simp[zx];omega
 tmp:=fun i=>by
  have ht:tv (Tr.ofList args) i=args[i]?.getD jf:=by unfold tv;rw[Tr.qc]
  rw[ht]
  cases hi:args[i]? with
  | none=>
   refine .inr ⟨by simp,?_⟩;have:args.length<=i:=by simpa using hi
   rw[getD_eq_getD_getElem?,Array.getElem?_append_right (by simp[zx];exact this),Array.getElem?_replicate];simp only[getD_none,Xx]
   split<;>rfl
  | some v=>
   have b:=(List.getElem?_eq_some_iff.1 hi).1;refine .inr ⟨(zV _ _).1 h v (List.mem_of_getElem? hi),?_⟩;rw[getD_eq_getD_getElem?,Array.getElem?_append_left (by simp[zx];exact b)];simp[zx,hi]
theorem zdU{rec : Rec}(n : Wy E rec){f : FuncId}{args : List zb}{H H' : Heap}{v : zb}(h : qj E rec f args H = some (v, H')){β : Inj}{w : World}(hR : Rel E.P β H w)(A : Yv E β H)(i : WFs β args) :
    (∃fn c, E.P.funcs[f]?=some fn /\ fn.body = some c) /\ Calls E.P f (zf β args).toArray w fun e w2 => ∃x, e = .returned x /\ RR E.P β H w v H' x w2 := by
  replace h := ze h;obtain⟨fn, t, h⟩ := h;rw[hE.funcs] at t;replace h := ze h;obtain⟨c, hb, h⟩ := h;refine⟨⟨fn, c, t, hb⟩, fun cs => ?_⟩;let b : Frame := { (default : Frame) with fn := f, kind := .normal }
  let u : Act := { tmps := (zf β args).toArray ++ Array.replicate (fn.ntmps - (zf β args).toArray.size) undef, defers := [] }
  have a : Frame.enter E.P f (zf β args).toArray .normal = b.atR u [.code c] := by
    simp[Frame.enter, Frame.atR, t, hb, b, u];rfl
  have C : At E ⟨zia fn.ntmps (qS args 0), f, none⟩ w.heap.size (Tr.ofList args) H β w b u :=
    ⟨hR, A, ⟨rfl, rfl, rfl, by intro l hl; cases hl⟩, zoO hE i _, ⟨[], rfl, ⟨nodup_nil, by simp⟩⟩, Nat.le_refl _⟩
  have j := n ⟨zia fn.ntmps (qS args 0), f, none⟩ c (Tr.ofList args) H β w b u [] cs w.heap.size _ (.inl rfl) C
  have fin : ∀(g : Tr zb) (H1 : Heap) (β' : Inj) (w' : World) (d : Act) (todo : List Item), UE E.P β H w ⟨zia fn.ntmps (qS args 0), f, none⟩ w.heap.size β' H1 w' g d ->
      leave E fn g H1 = some (v, H') ->
      Steps E.P (lone (Frame.enter E.P f (zf β args).toArray .normal) cs w) (lone { b.atR d todo with mode := .returning } cs w') ->
      ∃e w2 fr, (∃x, e = Ending.returned x /\ RR E.P β H w v H' x w2) /\ Comes E.P (lone (Frame.enter E.P f (zf β args).toArray .normal) cs w) (lone fr cs w2) e /\ fr.fn = f /\ fr.leaving E.P w2 e := by
    intro g H1 β' w' d todo p hl hs;obtain⟨rs, y, hm⟩ := p.marks;obtain⟨w2, s2, k1, k2, k3, k4, k5⟩ := unwind_ok (P := E.P) (β := β') (H := H1) (B := w.heap.size) (fr := { b.atR d todo with mode := .returning }) (cs := cs) rfl rs w' hm y;have o := p.rel.untrack (w' := w2) fun c hc => k1 c (.inr hc);obtain⟨rfl, hv, k⟩ := zq4 hE o p.tmp hl
    have m : Ext β H w β' H' w2 :=
      ⟨p.ext.old, p.ext.next, p.ext.apart, p.ext.gone, p.ext.ro, p.ext.new, fun c hc z => by rw[k1 c (.inl hc)]; exact p.ext.frame c hc z, by rw[k2]; exact p.ext.size, k3.trans p.ext.tape, k4.trans p.ext.os, k5.trans p.ext.output⟩
    exact⟨.returned (zc β' v), w2, _, ⟨_, rfl, β', rfl, hv, o, m⟩, hs.trans s2, rfl, rfl, rfl, rfl, fn, t, k⟩
  rw[<- a] at j;revert h j
  cases rec ⟨zia fn.ntmps (qS args 0), f, none⟩ c (Tr.ofList args) H with
  | fail => intro h; cases h
  | nrm g H1 =>
    intro h j;obtain⟨β', w', d, p, s⟩ := j
    exact fin g H1 β' w' d _ p h (s.trans (.one (stepR_end rfl)))
  | ex id g H1 => intro h; cases h
  | ret g H1 =>
    intro h j;obtain⟨β', w', d, k1, p, s⟩ := j;exact fin g H1 β' w' d _ p h (s.trans (.one (stepR_ret rfl)))
theorem Zx(hN:XH E.P){rec:Rec}(b:Wy E rec){f:FuncId}{args:List zb}{H H':Heap}{v:zb}(h:qj E rec f args H=some (v,H')){β:Inj}{w:World}(hR:Rel E.P β H w)(d:Yv E β H)(a:WFs β args) :
  Res E.P (callFunc f (zf β args).toArray) w (RR E.P β H w v H'):=by
 obtain⟨⟨fn,c,h1,h2⟩,h3⟩:=zdU hE b h hR d a;have hn:fn.name ≠ "runtime.NumGoroutine" := by simpa using hN f fn h1
 refine⟨.enter f (zf β args).toArray,w,?_,h3⟩;simp[callFunc,h1,hn,h2]
end
end
section
variable[Unk]
def ZZ(P:Program)(f:FuncId)(e:Array Value->Sem Value):Prop:=
 ∃fn:Func,P.funcs[f]?=some fn/\(fn.name == "runtime.NumGoroutine")=false/\fn.body.isNone=true/\Extern.findNext fn=none/\Extern.find fn=some e
def zgR(E:Env):Prop:=∀f s,E.spec.get f=some s ->
 match s with
 | .mapsClone=>ZZ E.P f Extern.MapsClone.clone
 | .indexByte=>ZZ E.P f Extern.BytealgIndexByte.indexByte
 | .makeNoZero e=>∃ps t,ZZ E.P f (Extern.BytealgMakeNoZero.makeNoZero ps #[t])/\E.P.underlying t=some (.slice e)/\qX E.P e=1
 | .same=>ZZ E.P f Extern.AbiNoEscape.same
 | .insert=>True
 | .compare=>ZZ E.P f Extern.BytealgCompare.compare
 | .count=>ZZ E.P f Extern.BytealgCount.count
 | .fact=>True
theorem ZZ.res{P:Program}{f:FuncId}{e:Array Value->Sem Value}(h:ZZ P f e){args:Array Value}{β:Inj}{H H':Heap}{w:World}{v:zb}(hs:Sim P β H w (e args) v H') :
  Res P (callFunc f args) w (RR P β H w v H'):=by
 obtain⟨fn,h1,h2,h3,h4,h5⟩:=h;obtain⟨β',w',g1,u,o,g⟩:=hs;refine⟨.value (zc β' v),w',?_,β',rfl,u,o,g⟩;rw[run_callFunc_extern h1 h2 h3 h4 h5,g1];rfl
section
variable{E:Env}(hE:yg E)
include hE
omit hE in
theorem zdX{P : Program}{β : Inj}{H H' : Heap}{w : World}(hR : Rel P β H w){args : List zb}{v : zb}(h : zbY args H = some (v, H'))(hx : WFs β args) :
    Sim P β H w (Extern.MapsClone.clone (zf β args).toArray) v H' := by
  cases args with
  | nil => cases h
  | cons a q =>
    replace h := Q2 h;obtain⟨hnil, h⟩ := h;subst hnil;replace h := ze h;obtain⟨p, hp, h⟩ := h;have := zdL hp;subst this;replace h := ze h;obtain⟨r, hr, h⟩ := h;have hp2 := Uy hr;replace h := ze h;obtain⟨b, hb, h⟩ := h;replace h := ze h;obtain⟨m, hm, h⟩ := h;simp only[zY] at h;cases h;have hx1 : WF β p.2 := hx.1;rw[hp2] at hx1;obtain⟨y, hy⟩ := Option.isSome_iff_exists.1 hx1
    cases b with
    | cells _ _ _ => cases hm
    | loop _ _ _ _ _ _ _ _ => cases hm
    | siter _ _ => cases hm
    | text _ _ => cases hm
    | pack _ _ _ => cases hm
    | ints _ _ => cases hm
    | view _ => cases hm
    | map es c =>
      cases hm;obtain⟨arr, a1, a2, a3⟩ := hR.blk r _ y hb hy;have hfr := hR.fresh (Nat.le_refl H.next);obtain⟨r1, r2⟩ := hR.add (.map es c) (.map arr c) 0 (zH.mono (β := β) (b := .map es c) ⟨arr, yo _ _, a2, a3⟩ (Inj.kX hfr));refine⟨β.put H.next (w.heap.size, 0, 0), push w (.map arr c), ?_, by simp[WF, Inj.zL], r1, r2⟩;have hyb : β.blk r = y.1 := by simp[Inj.blk, hy]
      have a1' : w.heap[β.blk r]?=some (.map arr c) := by rw[hyb]; exact a1
      have hdef : Extern.MapsClone.clone #[.iface p.1 (.map (some (β.blk r)))] = (do
          let .map entries clock <- getObj (β.blk r)|stuck "maps.clone: a map expected"
          pure (.iface p.1 (.map (some (<- newObj (.map entries clock)))))) := rfl
      have hc : (zf β [zb.iface p.1 p.2]).toArray = #[.iface p.1 (.map (some (β.blk r)))] := by rw[hp2]; rfl
      rw[hc, hdef];simp only[Sem.run_bind, MapKept.run_getObj_map a1', Result.andThen_ok, run_newObj, Sem.run_pure];have hm : zc (β.put H.next (w.heap.size, 0, 0)) (.iface p.1 (.map H.next)) = .iface p.1 (.map (some w.heap.size)) := by simp[zc, Inj.blk, Inj.zL]
      rw[hm];rfl
omit hE in
theorem ziP(c:Nat)(hc:c<256):∀(s:List Nat) (i:Nat),(∀b∈s,b<256)->Ul c s i=match s.findIdx? (fun b=>UInt8.ofNat b==UInt8.ofNat c) with|some k=>Int.ofNat (i+k)|none=>-1:=by
 intro s
 induction s with
 | nil=>intro i _;rfl
 | cons b s ih=>
  intro i h;have hb:=h b (by simp);have e:Ul c (b::s) i=ifB (Nat.beq b c) (.ofNat i) (Ul c s (Nat.succ i)):=rfl;rw[e,findIdx?_cons,zl,zu];by_cases hbc:b=c
  .subst hbc;simp
  .have:(UInt8.ofNat b==UInt8.ofNat c)=false:=by
    rw[beq_eq_false_iff_ne];exact fun q=>hbc (ofNat_inj hb hc q)
   rw[this,if_neg (by simpa using hbc),ih (Nat.succ i) fun x hx=>h x (by simp[hx])];simp only[Bool.false_eq_true,if_false]
   cases s.findIdx? (fun b=>UInt8.ofNat b==UInt8.ofNat c) with
   | none=>rfl
   | some k=>simp only[map_some];congr 1;omega
omit hE in
theorem firstIdx_eq(s:List Nat)(c:UInt8):firstIdx (str s) c=match s.findIdx? (fun b=>UInt8.ofNat b==c) with|some k=>Int.ofNat k|none=>-1:=by
 have hget:∀i,i<s.length->(str s)[i]! = UInt8.ofNat (s.getD i 0):=by
  intro i hi;have h1:i<(str s).size:=by rw[qm];exact hi
  rw[getElem!_pos (str s) i h1];show(str s).data[i]=_;simp[str,hi]
 unfold firstIdx;rw[qm]
 have key:(List.range s.length).find? (fun i=>(str s)[i]! == c)=s.findIdx? (fun b=>UInt8.ofNat b==c):=by
  cases hf:s.findIdx? (fun b=>UInt8.ofNat b==c) with
  | none=>
   rw[List.findIdx?_eq_none_iff]at hf;rw[List.find?_eq_none];intro i hi;have hi:=List.mem_range.1 hi;rw[hget i hi];have:=hf s[i] (List.getElem_mem hi)
   simp[hi,this]
  | some k=>
   rw[List.findIdx?_eq_some_iff_getElem]at hf;obtain⟨h1,h2,h3⟩:=hf;rw[List.find?_eq_some_iff_getElem];refine⟨by rw[hget k h1];simpa[h1] using h2,k,by simpa using h1,by simp,fun j hj=>?_⟩;have hj':j<s.length:=by omega
   have:=h3 j hj;simp only[List.getElem_range];rw[hget j hj'];simp[hj']at this ⊢;exact this
 rw[key];cases s.findIdx? (fun b=>UInt8.ofNat b==c)<;>rfl
omit hE in
theorem zdY{P:Program}{β:Inj}{H H':Heap}{w:World}(hR:Rel P β H w){args:List zb}{v:zb}(h:zb0 args H=some (v,H'))(hx:WFs β args) :
  Sim P β H w (Extern.BytealgIndexByte.indexByte (zf β args).toArray) v H':=by
 cases args with
 | nil=>cases h
 | cons a r=>
  cases r with
  | nil=>cases h
  | cons b q=>
   replace h:=Q2 h;obtain⟨hnil,h⟩:=h;subst hnil;replace h:=ze h;obtain⟨s,hs,h⟩:=h;obtain rfl:=qG hs;replace h:=ze h;obtain⟨c,hc,h⟩:=h;obtain⟨n,rfl,rfl⟩:=Kb hc;cases h;refine qh.sim ⟨?_,by simp[WF]⟩ hR;have:=run_indexByte_string (P:=P) (str s) (Int.ofNat n) w;have hc:(zf β [zb.str s,zb.int .u8 (.ofNat n)]).toArray = #[.string (str s),.int .u8 (Int.ofNat n)]:=rfl;rw[hc,this,firstIdx_eq,jL,ziP (n % 256) (mod_lt _ (by omega)) s 0 hx.1,ofNat_mod];have e:((Int.ofNat n).toNat).toUInt8=UInt8.ofNat n:=rfl;rw[e]
   cases s.findIdx? (fun b=>UInt8.ofNat b==UInt8.ofNat n) with
   | none=>rfl
   | some k=>simp[zc]
omit hE in
theorem zoq(c:Nat)(hc:c<256):∀(s:List Nat),(∀b∈s,b<256)->Lib.countByte (s.map UInt8.ofNat) (UInt8.ofNat c)=zdu c s:=by
 intro s
 induction s with
 | nil=>intro _;rfl
 | cons b s ih=>
  intro h;have hb:=h b (by simp);have e:zdu c (b::s)=ifB (Nat.beq b c) (Nat.succ (zdu c s)) (zdu c s):=rfl;have ih:=ih fun x hx=>h x (by simp[hx]);unfold Lib.countByte at ih ⊢;rw[e,map_cons,count_cons,ih,zl,zu];by_cases hbc:b=c
  .subst hbc;simp
  .have:(UInt8.ofNat b==UInt8.ofNat c)=false:=by
    rw[beq_eq_false_iff_ne];exact fun q=>hbc (ofNat_inj hb hc q)
   rw[this];simp[hbc]
omit hE in
theorem zm8{P:Program}{β:Inj}{H H':Heap}{w:World}(hR:Rel P β H w){args:List zb}{v:zb}(h:zoX args H=some (v,H'))(hx:WFs β args) :
  Sim P β H w (Extern.BytealgCount.count (zf β args).toArray) v H':=by
 cases args with
 | nil=>cases h
 | cons a r=>
  cases r with
  | nil=>cases h
  | cons b q=>
   replace h:=Q2 h;obtain⟨hnil,h⟩:=h;subst hnil;replace h:=ze h;obtain⟨s,hs,h⟩:=h;obtain rfl:=qG hs;replace h:=ze h;obtain⟨c,hc,h⟩:=h;obtain⟨n,rfl,rfl⟩:=Kb hc;cases h;refine qh.sim ⟨?_,by simp[WF]⟩ hR;have hc:(zf β [zb.str s,zb.int .u8 (.ofNat n)]).toArray = #[.string (str s),.int .u8 (Int.ofNat n)]:=rfl;have e:((Int.ofNat n).toNat).toUInt8=UInt8.ofNat (n % 256):=by rw[ofNat_mod];rfl
   rw[hc,Lib.run_countString (str s) (Int.ofNat n) w,XZ,e,zoq (n % 256) (mod_lt _ (by omega)) s hx.1,jL];rfl
omit hE in
theorem zwe(s:List Nat)(i:Nat):(str s)[i]! = (s.map UInt8.ofNat).getD i 0:=by
 by_cases h:i<s.length
 .have h1:i<(str s).size:=by rw[qm];exact h
  rw[getElem!_pos (str s) i h1];show(str s).data[i]=_;simp[str,h]
 .rw[getElem!_neg (str s) i (by rw[qm];exact h)];simp[List.getD,List.getElem?_eq_none (show(s.map UInt8.ofNat).length<=i by simp;omega)];rfl
def zk3(a b:List UInt8):Int:=
 match(List.range (min a.length b.length)).find? fun i=>a.getD i 0 != b.getD i 0 with
 | some i=>if a.getD i 0<b.getD i 0 then -1 else 1
 | none=>if a.length<b.length then -1 else if a.length > b.length then 1 else 0
omit hE in
theorem zor(x y:UInt8)(a b:List UInt8):zk3 (x::a) (y::b)=if x<y then -1 else if x=y then zk3 a b else 1:=by
 unfold zk3;have e:min (x::a).length (y::b).length=(min a.length b.length)+1:=by simp[Nat.add_min_add_right]
 rw[e,List.range_succ_eq_map,find?_cons];by_cases h:x=y
 .subst h;have hx:¬x<x:=UInt8.lt_irrefl x;simp only[getD_cons_zero,bne_self_eq_false,List.find?_map,if_neg hx,if_true]
  have e2:((fun i=>(x::a).getD i 0 != (x::b).getD i 0) ∘ Nat.succ)=fun i=>a.getD i 0 != b.getD i 0:=by
   funext i;simp
  rw[e2]
  cases(List.range (min a.length b.length)).find? fun i=>a.getD i 0 != b.getD i 0 with
  | none=>simp
  | some k=>simp
 .have hb:(x != y)=true:=by simpa using h
  simp only[getD_cons_zero,hb,if_neg h]
omit hE in
theorem cmp_eq(s t:List Nat)(hs:∀b∈s,b<256)(ht:∀b∈t,b<256):Extern.BytealgCompare.cmp (str s) (str t)=zos s t:=by
 have e:Extern.BytealgCompare.cmp (str s) (str t)=zk3 (s.map UInt8.ofNat) (t.map UInt8.ofNat):=by
  unfold Extern.BytealgCompare.cmp zk3;simp only[qm,length_map,zwe];rfl
 rw[e];clear e
 induction s generalizing t with
 | nil=>
  cases t with
  | nil=>rfl
  | cons b t=>simp[zk3,zos,ZK]
 | cons a s ih=>
  cases t with
  | nil=>simp[zk3,zos,zgb]
  | cons b t=>
   have ha:=hs a (by simp);have hb:=ht b (by simp);have e1:zos (a::s) (b::t)=ifB (blt a b) (.negSucc 0) (ifB (Nat.beq a b) (zos s t) (.ofNat 1)):=rfl;rw[map_cons,map_cons,zor,e1,ih t (fun x hx=>hs x (by simp[hx])) (fun x hx=>ht x (by simp[hx]))]
   have h1:(UInt8.ofNat a<UInt8.ofNat b)↔a<b:=by
    rw[UInt8.lt_iff_toNat_lt];simp[mod_eq_of_lt ha,mod_eq_of_lt hb]
   have h2:(UInt8.ofNat a=UInt8.ofNat b)↔a=b:=⟨ofNat_inj ha hb,fun h=>by rw[h]⟩
   simp only[h1,h2,zl,zN,zu,decide_eq_true_eq,beq_iff_eq];rfl
omit hE in
theorem zg3{P:Program}{β:Inj}{H H':Heap}{w:World}(hR:Rel P β H w){args:List zb}{v:zb}(h:zg4 args H=some (v,H'))(hx:WFs β args) :
  Sim P β H w (Extern.BytealgCompare.compare (zf β args).toArray) v H':=by
 cases args with
 | nil=>cases h
 | cons a r=>
  cases r with
  | nil=>cases h
  | cons b q=>
   replace h:=Q2 h;obtain⟨hnil,h⟩:=h;subst hnil;replace h:=ze h;obtain⟨s,hs,h⟩:=h;obtain rfl:=qG hs;replace h:=ze h;obtain⟨t,ht,h⟩:=h;obtain rfl:=qG ht;cases h;refine qh.sim ⟨?_,by simp[WF]⟩ hR;have hc:(zf β [zb.str s,zb.str t]).toArray = #[.string (str s),.string (str t)]:=rfl;rw[hc,jL,<- cmp_eq s t hx.1 hx.2.1];have hd:Extern.BytealgCompare.compare #[.string (str s),.string (str t)]=(do pure (goInt (Extern.BytealgCompare.cmp (<- Extern.Bytes.bytesOf (.string (str s))) (<- Extern.Bytes.bytesOf (.string (str t))))):Sem Value):=rfl;rw[hd];simp[Extern.Bytes.bytesOf,zc,goInt]
theorem zbZ{β:Inj}{H H':Heap}{w:World}(hR:Rel E.P β H w){e t:TypeId}{ps:Array TypeId}{args:List zb}{v:zb}(h:zaC e args H=some (v,H'))(hx:WFs β args)
  (ht:E.P.underlying t=some (.slice e)) (hs:qX E.P e=1):Sim E.P β H w (Extern.BytealgMakeNoZero.makeNoZero ps #[t] (zf β args).toArray) v H':=by
 have _:=hE
 cases args with
 | nil=>cases h
 | cons a q=>
  replace h:=Q2 h;obtain⟨hnil,h⟩:=h;subst hnil;replace h:=ze h;obtain⟨p,hp,h⟩:=h;obtain rfl:=jr hp;replace h:=zg h;obtain⟨hi,h⟩:=h;replace h:=jj h;obtain⟨n,hn,h⟩:=h;replace h:=zg h;obtain⟨hle,h⟩:=h;rw[zG,decide_eq_true_eq]at hle;simp only[zY]at h;cases h;obtain⟨cs,c1,o,_⟩:=Lib.run_makeNoZero (P:=E.P) w ps t e ht n (by omega);have g:Alike w w.drew.drew:=⟨rfl,rfl,rfl,rfl⟩
  have f:=hR.alike g
  obtain⟨r1,r2⟩:=f.newRow (t:=e) (n:=n) (c:=.nil) (arr:=cs) (e:=cs.size-n) (fz:=(0,0))
   ⟨by rw[hs];omega,fun i v hv=>absurd hv (by rw[Tr.get_nil];simp),fun i _ hf=>by simp at hf,Nat.dvd_zero _⟩
  refine⟨β.put H.next (w.heap.size,0,cs.size-n),push w.drew.drew (.cells cs e),?_,⟨by simp[Inj.zL],Nat.le_refl _⟩,r1,(Ext.alike hR.bnd g).trans r2⟩
  have hc:(zf β [zb.int p.1 p.2]).toArray = #[.int .i64 (n:Int)]:=by
   have h1:=Zd hi;simp only[zf,zc];rw[h1,hn];rfl
  rw[hc,c1];simp only[zc,Um,yA,Bool.false_eq_true,if_false];rw[show n+(cs.size-n)=cs.size by omega];rfl
omit hE in
theorem zeW{P:Program}{β:Inj}{H:Heap}{w:World}(hR:Rel P β H w){l:Nat}{q:Lp}(h:H.lp l=some q)(hl:(β l).isSome) :
  H.blk.get l=some q.blk/\∃r:Loop,w.heap[β.blk l]?=some (.loop r)/\r.state=q.st/\r.pending=q.pend/\r.fn=q.fn/\yh β q.n q.T r.tmps/\r.params=q.ps/\r.assign=q.assign/\r.body=q.body:=by
 replace h:=zg h;obtain⟨_,h⟩:=h;replace h:=ze h;obtain⟨b,hb,h⟩:=h
 cases b with
 | cells _ _ _=>cases h
 | map _ _=>cases h
 | siter _ _=>cases h
 | text _ _=>cases h
 | pack _ _ _=>cases h
 | ints _ _=>cases h
 | view _=>cases h
 | loop st pend fn n T ps as bo=>
  cases h;refine⟨hb,?_⟩;obtain⟨y,hy⟩:=Option.isSome_iff_exists.1 hl;obtain⟨tmps,d,h1,h2⟩:=hR.blk l _ y hb hy;exact⟨_,by simp[Inj.blk,hy];exact h1,rfl,rfl,rfl,h2,rfl,rfl,rfl⟩
omit hE in
theorem zce{P:Program}{β:Inj}{H:Heap}{w:World}(hR:Rel P β H w){l:Nat}{q:Lp}(h:H.lp l=some q)(hl:(β l).isSome){r:Loop}(hr:w.heap[β.blk l]?=some (.loop r))(st:LoopState)(pend:Option Code) :
  Rel P β (H.J3 l q st pend) (w.putObj (β.blk l) (.loop { r with state:=st,pending:=pend })) /\
  Ext β H w β (H.J3 l q st pend) (w.putObj (β.blk l) (.loop { r with state:=st,pending:=pend })):=by
 obtain⟨h1,r',h2,h3,h4,h5,h6,h7,h8,h9⟩:=zeW hR h hl;rw[hr]at h2;cases h2;obtain⟨y,hy⟩:=Option.isSome_iff_exists.1 hl;have hb:β.blk l=y.1:=by simp[Inj.blk,hy]
 have hlt:=(Array.getElem?_eq_some_iff.1 hr).1
 have h60:100<=l:=by
  have:=(zg h).1;rwa[zG,decide_eq_true_eq]at this
 refine hR.zpd h60 h1 hy ?_ ?_
 .rw[hb];exact⟨fun k hk=>putObj_heap_other hk,putObj_size,rfl,rfl,rfl⟩
 .refine⟨r.tmps,r.defers,?_,h6⟩;rw[<- hb,putObj_heap_same hlt];simp[h5,h7,h8,h9]
omit hE in
theorem znt{β:Inj}{n:Nat}:∀(ps:List Tmp) (args:List zb) (T:Tr zb) (arr:Array Value),yh β n T arr->WFs β args->zq0 n ps=true->args.length=ps.length ->
  yh β n (UQ ps args T) ((ps.zip (zf β args)).foldl (fun tmps (p:Tmp×Value)=>tmps.setIfInBounds p.1 p.2) arr):=by
 intro ps
 induction ps with
 | nil=>intro args T arr h _ _ _;exact h
 | cons p ps ih=>
  intro args T arr h hw hl hn
  cases args with
  | nil=>simp at hn
  | cons a args=>
   have hl:ifB (blt p n) (zq0 n ps) false=true:=hl;rw[zl]at hl;split at hl
   .rename_i hp;rw[zN,decide_eq_true_eq]at hp;exact ih args (T.set p a) (arr.setIfInBounds p (zc β a)) (h.set hp hw.1) hw.2 hl (by simpa using hn)
   .cases hl
theorem zoH{rec : Rec}(K : Wy E rec){l : Nat}{args : List zb}{H H' : Heap}{v : zb}(h : zlq rec l args H = some (v, H')){β : Inj}{w : World}(hR : Rel E.P β H w)(hG : Yv E β H)(Q : WFs β args)
    (hl : (β l).isSome) : Res E.P (Instr.yield (β.blk l) (zf β args).toArray) w (RR E.P β H w v H') := by
  have _ := hE;replace h := ze h;obtain⟨q, hq, h⟩ := h;replace h := zg h;obtain⟨hc, h⟩ := h;simp only[zk, Bool.and_eq_true, zu, beq_iff_eq, jE] at hc;obtain⟨hc1, hc2, hc3⟩ := hc;obtain⟨h1, r, h2, h3, h4, h5, h6, h7, h8, h9⟩ := zeW hR hq hl;have hsz : (zf β args).toArray.size = r.params.size := by rw[h7]; simp[zx, hc2]
  have hy := run_yield (P := E.P) h2 hsz;refine⟨_, w, hy, ?_⟩;intro c cs;let b : Frame := { (default : Frame) with fn := q.fn, kind := .normal, roundOf := some (β.blk l) }
  let L : Act := { tmps := (r.params.zip (zf β args).toArray).foldl (fun tmps (t, a) => tmps.setIfInBounds t a) r.tmps, defers := [] }
  have hb0 : Frame.round (β.blk l) r.fn L.tmps r.assign r.body .normal = b.atR L [.code q.assign, .beginRound, .code q.body] := by
    rw[h5, h8, h9];simp[Frame.round, Frame.atR, b, L]
  have hT0 : yh β q.n (UQ q.ps.toList args q.T) L.tmps := by
    have := znt q.ps.toList args q.T r.tmps h6 Q hc3 (by rw[hc2])
    have e : L.tmps = (q.ps.toList.zip (zf β args)).foldl (fun tmps (p : Tmp × Value) => tmps.setIfInBounds p.1 p.2) r.tmps := by
      show(r.params.zip (zf β args).toArray).foldl (fun tmps (x : Tmp × Value) => tmps.setIfInBounds x.1 x.2) r.tmps = _;rw[h7, <- Array.foldl_toList, toList_zip]
    rw[e];exact this
  have hA0 : At E ⟨q.n, q.fn, some l⟩ w.heap.size (UQ q.ps.toList args q.T) H β w b L :=
    ⟨hR, hG, ⟨rfl, rfl, rfl, fun l' hl' => by cases hl'; exact hl⟩, hT0, ⟨[], rfl, ⟨nodup_nil, by simp⟩⟩, Nat.le_refl _⟩
  show ∃Y w2, RR E.P β H w v H' Y w2 /\ Steps E.P (lone (Frame.round (β.blk l) r.fn L.tmps r.assign r.body .normal) (c :: cs) w) (lone (c.finish Y) cs w2);rw[hb0];have ho := K ⟨q.n, q.fn, some l⟩ q.assign (UQ q.ps.toList args q.T) H β w b L [.beginRound, .code q.body] (c :: cs) w.heap.size _ (.inl rfl) hA0;revert h ho
  cases rec ⟨q.n, q.fn, some l⟩ q.assign (UQ q.ps.toList args q.T) H with
  | fail => intro h; cases h
  | ex id T1 H1 => intro h; cases h
  | ret T1 H1 => intro h; cases h
  | nrm T1 H1 =>
    intro h ho;obtain⟨β1, U, a1, Z, s1⟩ := ho;replace h := ze h;obtain⟨q1, hq1, h⟩ := h;replace h := zg h;obtain⟨N, h⟩ := h;have I := Z.ext.le hR.bnd;have o : (β1 l).isSome := by rw[I.some hl]; exact hl
    have J : β1.blk l = β.blk l := by simp[Inj.blk, I.some hl]
    obtain⟨g1, r1, g2, g3, g4, g5, g6, g7, g8, g9⟩ := zeW Z.rel hq1 o
    have hst : r1.state = .ready := by
      rw[g3];revert N
      cases q1.st <;> intro N <;> first|rfl|cases N
    obtain⟨k1, k2⟩ := zce Z.rel hq1 o g2 .busy r1.pending;rw[g4] at k1 k2
    have hbr : (Instr.beginRound (β.blk l)).run E.P U = .ok () (U.putObj (β1.blk l) (.loop { r1 with state := .busy, pending := q1.pend })) := by
      rw[<- J, run_beginRound g2 hst];have : ({ r1 with state := .busy, pending := q1.pend } : Loop) = { r1 with state := .busy } := by rw[<- g4]
      rw[this]
    have s2 : Steps E.P (lone (b.atR a1 [.beginRound, .code q.body]) (c :: cs) U) (lone (b.atR a1 [.code q.body]) (c :: cs) (U.putObj (β1.blk l) (.loop { r1 with state := .busy, pending := q1.pend }))) :=
      .one (stepR_beginRound rfl hbr)
    have hA1 : At E ⟨q.n, q.fn, some l⟩ w.heap.size T1 (H1.J3 l q1 .busy q1.pend) β1 (U.putObj (β1.blk l) (.loop { r1 with state := .busy, pending := q1.pend })) b a1 := by
      have X := Z.at_ hA0;exact⟨k1, X.glob.ext X.rel.bnd k2, X.frame, X.tmp, X.marks.ext k2, Nat.le_trans X.base k2.size⟩
    have g := K ⟨q.n, q.fn, some l⟩ q.body T1 (H1.J3 l q1 .busy q1.pend) β1 _ b a1 [] (c :: cs) w.heap.size _ (.inl rfl) hA1;have O := Z.ext.trans k2
    have fin : ∀(β3 : Inj) (z : Heap) (A : World) (M : Tr zb) (a3 : Act) (B : Lp) (st : LoopState) (jump : Option Code), UE E.P β1 (H1.J3 l q1 .busy q1.pend) (U.putObj (β1.blk l) (.loop { r1 with state := .busy, pending := q1.pend })) ⟨q.n, q.fn, some l⟩ w.heap.size β3 z A M a3 ->
        z.lp l = some B -> st = (if jump.isNone then .ready else .done) ->
        ∃C, (Instr.endRound (β.blk l) jump).run E.P A = .ok (.bool jump.isNone) C /\ RR E.P β H w (.bool jump.isNone) (z.J3 l B st jump) (.bool jump.isNone) C := by
      intro β3 z A M a3 B st jump u f D;have G := u.ext.le k1.bnd;have hl3 : (β3 l).isSome := by rw[G.some o]; exact o
      have hbl3 : β3.blk l = β.blk l := by rw[<- J]; simp[Inj.blk, G.some o]
      obtain⟨_, r3, e2, _⟩ := zeW u.rel f hl3;obtain⟨m1, m2⟩ := zce u.rel f hl3 e2 st jump;refine⟨_, by rw[<- hbl3]; exact run_endRound jump e2, β3, rfl, trivial, ?_, ?_⟩
      · rw[<- D]; exact m1
      · rw[<- D]; exact(O.trans u.ext).trans m2
    revert h g
    cases rec ⟨q.n, q.fn, some l⟩ q.body T1 (H1.J3 l q1 .busy q1.pend) with
    | fail => intro h; cases h
    | nrm M z =>
      intro h g;obtain⟨β3, A, a3, u, s3⟩ := g;replace h := ze h;obtain⟨B, f, h⟩ := h;cases h;obtain⟨C, f1, f2⟩ := fin β3 z A M a3 B .ready none u f rfl
      exact⟨.bool true, C, f2, s1.trans (s2.trans (s3.trans (.one (stepR_round_end rfl rfl f1))))⟩
    | ex id M z =>
      intro h g;obtain⟨β3, A, a3, k, u, hx, s3⟩ := g;replace h := ze h;obtain⟨B, f, h⟩ := h;cases h;obtain⟨C, f1, f2⟩ := fin β3 z A M a3 B .done (some (.exit id)) u f rfl
      exact⟨.bool false, C, f2, s1.trans (s2.trans (s3.trans (.one (stepR_round_exit rfl rfl hx f1))))⟩
    | ret M z =>
      intro h g;obtain⟨β3, A, a3, k, u, s3⟩ := g;replace h := ze h;obtain⟨B, f, h⟩ := h;cases h;obtain⟨C, f1, f2⟩ := fin β3 z A M a3 B .done (some .ret) u f rfl;exact⟨.bool false, C, f2, s1.trans (s2.trans (s3.trans (.one (stepR_round_ret rfl rfl f1))))⟩
end
end
section
variable[Unk]
theorem zkd{b β:Type}(f:b->β):∀(p:Pa) (t:Tr b),Yk p (YF f t)=(Yk p t).map f:=by
 intro p
 induction p with
 | e=>intro t;cases t with
  | nil=>rfl
  | node l v r=>cases v<;>rfl
 | o p a=>intro t;cases t with
  | nil=>rfl
  | node l v r=>exact a l
 | i p a=>intro t;cases t with
  | nil=>rfl
  | node l v r=>exact a r
theorem Jm{a β:Type}(f:a->β)(t:Tr a)(i:Nat):(YF f t).get i=(t.get i).map f:=zkd f _ _
def sh(N d id:Nat):Nat:=if id<N then id else d+(id-N)
theorem Zk{a:Type}(N d id:Nat)(f:Nat->a):yQ N d id f=f (sh N d id):=by
 unfold yQ sh;rw[zl,zN];by_cases h:id<N
 .simp[h]
 .simp[h]
def Za(β γ:Inj)(N d:Nat):Inj:=fun id=>if id<d then β id else γ (id-d+N)
theorem zqC{β γ:Inj}{N d:Nat}(hN:N<=d)(hlow:∀id,id<N->∀x,γ id=some x->β id=some x){id:Nat}{x:Nat×Nat×Nat}(h:γ id=some x):Za β γ N d (sh N d id)=some x:=by
 unfold Za sh;by_cases hi:id<N
 .rw[if_pos hi,if_pos (by omega)];exact hlow id hi x h
 .rw[if_neg hi,if_neg (by omega)];have:d+(id-N)-d+N=id:=by omega
  rw[this];exact h
section
variable{β γ:Inj}{N d:Nat}(hN:N<=d)(hlow:∀id,id<N->∀x,γ id=some x->β id=some x)
include hN hlow
theorem j7{id:Nat}(h:(γ id).isSome):Za β γ N d (sh N d id)=γ id:=by
 obtain⟨x,hx⟩:=Option.isSome_iff_exists.1 h;rw[zqC hN hlow hx,hx]
mutual
theorem Yj:∀v,WF γ v->WF (Za β γ N d) (shV N d v)/\zc (Za β γ N d) (shV N d v)=zc γ v
 | .bool _,_=>⟨trivial,rfl⟩
 | .int _ _,_=>⟨trivial,rfl⟩
 | .str _,w=>⟨w,rfl⟩
 | .nilp,_=>⟨trivial,rfl⟩
 | .ptr b o,w=>by
  have e:shV N d (.ptr b o) = .ptr (sh N d b) o:=Zk _ _ _ _;have m:=j7 hN hlow (show(γ b).isSome from w);rw[e]
  exact⟨by simp only[WF];rw[m];exact w,by simp[zc,Inj.addr,Inj.blk,Inj.sh,m]⟩
 | .nilslice,_=>⟨trivial,rfl⟩
 | .slice b o l c x,w=>by
  have e:shV N d (.slice b o l c x) = .slice (sh N d b) o l c x:=Zk _ _ _ _;have m:=j7 hN hlow (show(γ b).isSome from w.1);rw[e]
  exact⟨⟨by rw[m];exact w.1,w.2⟩,by simp[zc,Inj.addr,Inj.blk,Inj.sh,Inj.ext,m]⟩
 | .nilmap,_=>⟨trivial,rfl⟩
 | .map r,w=>by
  have e:shV N d (.map r) = .map (sh N d r):=Zk _ _ _ _;have m:=j7 hN hlow (show(γ r).isSome from w);rw[e]
  exact⟨by simp only[WF];rw[m];exact w,by simp[zc,Inj.blk,m]⟩
 | .fn f l m,w=>by
  obtain⟨g,a⟩:=Ku l w.1;obtain⟨A,z⟩:=Ku m w.2
  exact⟨⟨g,A⟩,by show Value.func _ _ _=_;rw[a,z];rfl⟩
 | .yieldf l,w=>by
  have e:shV N d (.yieldf l) = .yieldf (sh N d l):=Zk _ _ _ _;have m:=j7 hN hlow (show(γ l).isSome from w);rw[e]
  exact⟨by simp only[WF];rw[m];exact w,by simp[zc,Inj.blk,m]⟩
 | .capv b c,w=>by
  have e:shV N d (.capv b c) = .capv (sh N d b) c:=Zk _ _ _ _;have m:=j7 hN hlow (show(γ b).isSome from w);rw[e]
  exact⟨by simp only[WF];rw[m];exact w,by simp[zc,Inj.ext,m]⟩
 | .nilfn,_=>⟨trivial,rfl⟩
 | .iface t v,w=>by
  obtain⟨g,a⟩:=Yj v w;have e:shV N d (.iface t v) = .iface t (shV N d v):=rfl;rw[e]
  exact⟨g,by simp[zc,a]⟩
 | .niliface,_=>⟨trivial,rfl⟩
 | .agg l,w=>by
  obtain⟨g,a⟩:=Ku l w
  exact⟨g,by show Value.agg _=_;rw[a];rfl⟩
 | .tuple l,w=>by
  obtain⟨g,a⟩:=Ku l w
  exact⟨g,by show Value.tuple _=_;rw[a];rfl⟩
 | .sym i,w=>by
  have e:shV N d (.sym i) = .sym (sh N d i):=Zk _ _ _ _;have m:=j7 hN hlow (show(γ i).isSome from w);rw[e]
  exact⟨by simp only[WF];rw[m];exact w,by simp[zc,m]⟩
 | .esl b o q,w=>by
  have e:shV N d (.esl b o q) = .esl (sh N d b) o q:=Zk _ _ _ _;have m:=j7 hN hlow (show(γ b).isSome from w);rw[e];have h:(Za β γ N d).ext (sh N d b)=γ.ext b:=by simp[Inj.ext,m]
  have k:∀o,(Za β γ N d).addr (sh N d b) o=γ.addr b o:=fun o=>by simp[Inj.addr,Inj.blk,Inj.sh,m]
  exact⟨by simp only[WF];rw[m];exact w,by simp only[zc,h,k]⟩
 | .osl b v,w=>by
  obtain⟨j,w2,s,u,p⟩:=w;have e:shV N d (.osl b v) = .osl (sh N d b) (shV N d v):=Zk _ _ _ _;have m:=j7 hN hlow j;obtain⟨g,a⟩:=Yj v w2;rw[e];have h:(Za β γ N d).ext (sh N d b)=γ.ext b:=by simp[Inj.ext,m]
  have k:∀o,(Za β γ N d).addr (sh N d b) o=γ.addr b o:=fun o=>by simp[Inj.addr,Inj.blk,Inj.sh,m]
  exact⟨⟨by rw[m];exact j,g,s,by rw[a];exact u,by rw[h];exact p⟩,by simp only[zc,h,k,a]⟩
 | .psl b o q c x,w=>by
  obtain⟨j,w2,n,u,p⟩:=w;have e:shV N d (.psl b o q c x) = .psl (sh N d b) o (sh N d q) c x:=(Zk _ _ _ _).trans (Zk _ _ _ _);have m:=j7 hN hlow j;have y:=j7 hN hlow w2;rw[e];have h:(Za β γ N d).ext (sh N d b)=γ.ext b:=by simp[Inj.ext,m]
  have k:∀o,(Za β γ N d).addr (sh N d b) o=γ.addr b o:=fun o=>by simp[Inj.addr,Inj.blk,Inj.sh,m]
  exact⟨⟨by rw[m];exact j,by rw[y];exact w2,n,by rw[y];exact u,p⟩,by simp only[zc,h,k,y]⟩
theorem Ku:∀l,WFs γ l->WFs (Za β γ N d) (@zb.rec_1 (fun _=>zb) (fun _=>List zb)
  (fun b=>.bool b) (fun k n=>.int k n) (fun s=>.str s) .nilp (fun b o=>yQ N d b fun m=>.ptr m o) .nilslice (fun b o l c x=>yQ N d b fun m=>.slice m o l c x) .nilmap (fun r=>yQ N d r fun m=>.map m)
  (fun f _ _ l m=>.fn f l m) (fun l=>yQ N d l fun m=>.yieldf m) (fun b c=>yQ N d b fun m=>.capv m c) .nilfn (fun t _ v=>.iface t v) .niliface (fun _ l=>.agg l) (fun _ l=>.tuple l) (fun i=>yQ N d i fun m=>.sym m) (fun b o q=>yQ N d b fun m=>.esl m o q) (fun b _ v=>yQ N d b fun m=>.osl m v) (fun b o q c x=>yQ N d b fun m=>yQ N d q fun p=>.psl m o p c x)
  [] (fun _ _ a l=>a::l) l)/\zf (Za β γ N d) (@zb.rec_1 (fun _=>zb) (fun _=>List zb)
  (fun b=>.bool b) (fun k n=>.int k n) (fun s=>.str s) .nilp (fun b o=>yQ N d b fun m=>.ptr m o) .nilslice (fun b o l c x=>yQ N d b fun m=>.slice m o l c x) .nilmap (fun r=>yQ N d r fun m=>.map m)
  (fun f _ _ l m=>.fn f l m) (fun l=>yQ N d l fun m=>.yieldf m) (fun b c=>yQ N d b fun m=>.capv m c) .nilfn (fun t _ v=>.iface t v) .niliface (fun _ l=>.agg l) (fun _ l=>.tuple l) (fun i=>yQ N d i fun m=>.sym m) (fun b o q=>yQ N d b fun m=>.esl m o q) (fun b _ v=>yQ N d b fun m=>.osl m v) (fun b o q c x=>yQ N d b fun m=>yQ N d q fun p=>.psl m o p c x)
  [] (fun _ _ a l=>a::l) l)=zf γ l
 | [],_=>by
  have _:=hN;have _:=hlow
  exact⟨trivial,rfl⟩
 | v::l,w=>by
  obtain⟨j,h⟩:=Yj v w.1;obtain⟨g,e⟩:=Ku l w.2;exact⟨⟨j,g⟩,by show zc _ (shV N d v)::zf _ _=_;rw[h,e];rfl⟩
end
theorem zwj{P:Program}{b:zo}{x:Nat×Nat×Nat}{w:World}(hl:(ya b).isNone=true)(h:zH P γ b x w):zH P (Za β γ N d) (shB N d b) x w:=by
 cases b with
 | cells t n c=>
  obtain⟨arr,fz,h1,h2⟩:=h;refine⟨arr,fz,h1,h2.size,fun i v hv=>?_,h2.thaw,h2.al⟩;rw[Jm]at hv;obtain⟨u,l,rfl⟩:=Option.map_eq_some_iff.1 hv;obtain⟨k,j⟩:=h2.cell i u l;obtain⟨o,m⟩:=Yj hN hlow u k
  exact⟨o,by rw[m];exact j⟩
 | map es clock=>
  obtain⟨arr,h1,h2,h3⟩:=h;refine⟨arr,h1,?_,?_⟩
  .rw[h2,jn,List.map_map];refine List.map_congr_left fun e he=>?_;obtain⟨k,j,r⟩:=h3 e he;show QN γ e=QN _ (e.1,shV N d e.2.1,e.2.2);simp only[QN];rw[(Yj hN hlow _ k).2,(YI (β':=Za β γ N d) r j).2]
  .intro e he;rw[jn]at he;obtain⟨u,l,rfl⟩:=List.mem_map.1 he;obtain⟨k,j⟩:=h3 u l
   exact⟨(Yj hN hlow _ k).1,(YI j.2 j.1).1,j.2⟩
 | loop a b c e f g h i=>cases hl
 | siter s p=>exact h
 | text t v=>
  obtain⟨arr,fz,h1,h2⟩:=h;obtain⟨k,j⟩:=Yj hN hlow v h2.wf
  exact⟨arr,fz,h1,k,by rw[j];exact h2.is,h2.size,by rw[j];exact h2.cell,h2.thaw,h2.one⟩
 | ints t v=>
  obtain⟨arr,fz,h1,h2⟩:=h;obtain⟨k,j⟩:=Yj hN hlow v h2.wf
  exact⟨arr,fz,h1,k,by rw[j];exact h2.is,h2.size,by rw[j];exact h2.cell,h2.thaw,h2.one⟩
 | view c=>
  obtain⟨arr,t,fz,h1,h2⟩:=h;refine⟨arr,t,fz,h1,fun i v hv=>?_⟩;have hv:(YF (shV N d) c).get i=some v:=hv;rw[Jm]at hv;obtain⟨u,l,rfl⟩:=Option.map_eq_some_iff.1 hv;obtain⟨o,m⟩:=h2 i u l;obtain⟨k,j⟩:=Yj hN hlow u o
  exact⟨k,by rw[j];exact m⟩
 | pack t n N=>
  obtain⟨arr,fz,h1,h2⟩:=h;exact⟨arr,fz,h1,h2.bytes⟩
end
theorem zhK(N d:Nat):∀(rows:List (Nat×zo)) (t:Tr zo) (id:Nat) (b:zo),(Jb N d rows t).get id=some b->t.get id=some b\/∃p∈rows,id=sh N d p.1/\b=shB N d p.2:=by
 intro rows
 induction rows with
 | nil=>intro t id b h;exact .inl h
 | cons p rows a=>
  intro t id b h;have e:Jb N d (p::rows) t=Jb N d rows (t.set (sh N d p.1) (shB N d p.2)):=Zk _ _ _ _;rw[e]at h;rcases a _ _ _ h with h|⟨q,hq,h1,h2⟩
  .rw[Tr.zK]at h;by_cases hi:sh N d p.1=id
   .rw[if_pos hi]at h;cases h;exact .inr ⟨p,mem_cons_self,hi.symm,rfl⟩
   .rw[if_neg hi]at h;exact .inl h
  .exact .inr ⟨q,mem_cons_of_mem _ hq,h1,h2⟩
theorem X6(N d:Nat):∀(rows:List (Nat×zo)) (t:Tr zo) (id:Nat),id<d->(∀p∈rows,N<=p.1)->(Jb N d rows t).get id=t.get id:=by
 intro rows
 induction rows with
 | nil=>intro t id _ _;rfl
 | cons p rows a=>
  intro t id h hp;have e:Jb N d (p::rows) t=Jb N d rows (t.set (sh N d p.1) (shB N d p.2)):=Zk _ _ _ _;rw[e,a _ _ h fun q hq=>hp q (mem_cons_of_mem _ hq),Tr.zK,if_neg];have:=hp p mem_cons_self;unfold sh;rw[if_neg (by omega)];omega
theorem zoV{P:Program}{β γ:Inj}{H H':Heap}{w w2:World}(hR:Rel P β H w){N n:Nat}{rows:List (Nat×zo)}{r v:zb}(h:zoW H N n rows r=some (v,H'))
  (hrows:∀p∈rows,N<=p.1/\p.1<N+n/\(ya p.2).isNone=true) (hg:Grown w w2) (hr:WF γ r) (hm:Made P β N n rows γ w w2):RR P β H w v H' (zc γ r) w2:=by
 obtain⟨h1,h⟩:=zg h;rw[zG,decide_eq_true_eq]at h1;cases h;obtain⟨v1,v2⟩:=Yj h1 hm.low r hr;have hold:∀id,id<H.next->Za β γ N H.next id=β id:=fun id hid=>by unfold Za;rw[if_pos hid]
 have a:∀id,H.next<=id->Za β γ N H.next id=γ (id-H.next+N):=fun id hid=>by unfold Za;rw[if_neg (by omega)]
 have f:∀id b,(Jb N H.next rows H.blk).get id=some b->(id<H.next/\H.blk.get id=some b)\/(∃p∈rows,id=H.next+(p.1-N)/\b=shB N H.next p.2):=by
  intro id b hb;rcases zhK N H.next rows H.blk id b hb with hb|⟨p,hp,A,z⟩
  .exact .inl ⟨hR.live _ _ hb,hb⟩
  .refine .inr ⟨p,hp,?_,z⟩;rw[A];have:=(hrows p hp).1;unfold sh;rw[if_neg (by omega)]
 have hid:∀p∈rows,H.next+(p.1-N)-H.next+N=p.1:=fun p hp=>by have:=(hrows p hp).1;omega
 have hle:β.le (Za β γ N H.next):=fun id x hx=>by rw[hold id (hR.bnd _ _ hx)];exact hx
 have g:∀id b x,H.blk.get id=some b->β id=some x->x.1<w.heap.size:=fun id b x l m=>(hR.blk id b x l m).lt;refine⟨Za β γ N H.next,v2.symm,v1,⟨Nat.le_trans hR.base (le_add_right _ _),?_,?_,?_,?_⟩,⟨hold,le_add_right _ _,?_,?_,?_,?_,fun c hc _=>hg.old c hc,hg.size,hg.tape,hg.os,hg.output⟩⟩
 .intro id b x hb hx;rcases f id b hb with⟨l,m⟩|⟨p,hp,rfl,rfl⟩
  .rw[hold id l]at hx;exact((hR.blk id b x m hx).Z4 hg.old).mono hle
  .rw[a _ (le_add_right _ _),hid p hp]at hx;exact zwj h1 hm.low (hrows p hp).2.2 (hm.blk p hp x hx)
 .intro i j b c x y hb hx hc k e;rcases f i b hb with⟨l,m⟩|⟨p,hp,rfl,rfl⟩<;>rcases f j c hc with⟨u,t⟩|⟨q,hq,rfl,rfl⟩
  .rw[hold i l]at hx;rw[hold j u]at k;exact hR.inj i j b c x y m hx t k e
  .rw[hold i l]at hx;rw[a _ (le_add_right _ _),hid q hq]at k;have:=g i b x m hx;have:=hm.new _ _ (hrows q hq).1 k;omega
  .rw[hold j u]at k;rw[a _ (le_add_right _ _),hid p hp]at hx;have:=g j c y t k;have:=hm.new _ _ (hrows p hp).1 hx;omega
  .rw[a _ (le_add_right _ _),hid p hp]at hx;rw[a _ (le_add_right _ _),hid q hq]at k;exact .inl (by rw[hm.inj p hp q hq x y hx k e])
 .intro id x hx;show id<H.next+n;by_cases hi:id<H.next
  .omega
  .rw[a id (by omega)]at hx;rcases Nat.lt_or_ge (id-H.next+N) (N+n) with hl|o
   .omega
   .rw[hm.high _ o]at hx;cases hx
 .intro id b hb;show id<H.next+n;rcases f id b hb with⟨l,_⟩|⟨p,hp,rfl,_⟩
  .omega
  .have:=(hrows p hp).2.1;have:=(hrows p hp).1;omega
 .intro id hi _;exact X6 N H.next rows H.blk id hi fun p hp=>(hrows p hp).1
 .intro id b hi hb;have hb:(Jb N H.next rows H.blk).get id=some b:=hb;rw[X6 N H.next rows H.blk id hi fun p hp=>(hrows p hp).1]at hb;exact⟨b,hb⟩
 .intro id hi;have:=hR.base;exact X6 N H.next rows H.blk id (by omega) fun p hp=>(hrows p hp).1
 .intro id x hi hx;rw[a id hi]at hx;exact .inl (hm.new _ _ (le_add_left _ _) hx)
theorem Rel.rest{P:Program}{β β':Inj}{H Hi l H':Heap}{w w':World}(hR:Rel P β H w)(hn:Hi.next=H.next)(a:∀id b,Hi.blk.get id=some b->H.blk.get id=some b)
  (hR':Rel P β' l w') (hX:Ext β Hi w β' l w') (hn':H'.next=l.next) (hout:∀id,id<H.next->Hi.blk.get id=none->H'.blk.get id=H.blk.get id)
  (hin:∀id b,id<H.next->Hi.blk.get id=some b->H'.blk.get id=l.blk.get id) (hnew:∀id b,H.next<=id->H'.blk.get id=some b->l.blk.get id=some b) :
  Rel P β' H' w'/\Ext β H w β' H' w':=by
 have r:H.next<=l.next:=by rw[<- hn];exact hX.next
 have hle:β.le β':=fun id x hx=>by rw[hX.old id (by rw[hn];exact hR.bnd _ _ hx)];exact hx
 have f:∀c,Range β Hi c->Range β H c:=fun c ⟨i,b,x,h1,h2,h3⟩=>⟨i,b,x,h1,a _ _ h2,h3⟩
 have split:∀id b,H'.blk.get id=some b->(id<H.next/\Hi.blk.get id=none/\H.blk.get id=some b)\/(l.blk.get id=some b/\(id<H.next->∃b',Hi.blk.get id=some b')):=by
  intro id b hb;by_cases hid:id<H.next
  .cases hh:Hi.blk.get id with
   | none=>exact .inl ⟨hid,rfl,by rw[<- hout id hid hh];exact hb⟩
   | some b'=>exact .inr ⟨by rw[<- hin id b' hid hh];exact hb,fun _=>⟨b',rfl⟩⟩
  .exact .inr ⟨hnew id b (by omega) hb,fun h=>absurd h hid⟩
 have old:∀id x,id<H.next->β' id=some x->β id=some x:=fun id x hid hx=>by rw[<- hX.old id (by rw[hn];exact hid)];exact hx
 have apart:∀id b x,Hi.blk.get id=none->H.blk.get id=some b->β id=some x->¬Range β Hi x.1:=by
  intro id b x h1 h2 h3 ⟨i,b',y,M,v,J,B⟩;obtain rfl:=hR.Ze (.inl M) (a _ _ v) J h2 h3 B;rw[h1]at v;cases v
 have mixed:∀id b x j c y,id<H.next->Hi.blk.get id=none->H.blk.get id=some b->β' id=some x->l.blk.get j=some c->(j<H.next->∃b',Hi.blk.get j=some b')->β' j=some y->x.1=y.1->id<100/\j<100:=by
  intro id b x j c y h1 h2 h3 v J B I e;have m:=old id x h1 v;by_cases D:j<H.next
  .obtain⟨b',k⟩:=B D;rcases hR.inj _ _ _ _ _ _ h3 m (a _ _ k) (old j y D I) e with this|this
   .subst this;rw[h2]at k;cases k
   .exact this
  .rcases hX.new j y (by rw[hn];omega) I with G|G
   .have:=(hR.blk id b x h3 m).lt;omega
   .exact absurd (by rw[e];exact G) (apart id b x h2 h3 m)
 refine⟨⟨by rw[hn'];exact Nat.le_trans hR.base r,?_,?_,fun id x hx=>by rw[hn'];exact hR'.bnd id x hx,?_⟩,⟨fun id hid=>hX.old id (by rw[hn];exact hid),by rw[hn'];exact r,?_,?_,?_,?_,?_,hX.size,hX.tape,hX.os,hX.output⟩⟩
 .intro id b x hb hx;rcases split id b hb with⟨g,o,n⟩|⟨g,_⟩
  .have p:=old id x g hx;have u:=hR.blk id b x n p;exact(u.mono hle).heap (hX.frame _ u.lt (apart id b x o n p))
  .exact hR'.blk id b x g hx
 .intro i j b c x y hb hx hc A e;rcases split i b hb with⟨g,o,n⟩|⟨g,o⟩<;>rcases split j c hc with⟨z,C,K⟩|⟨z,C⟩
  .exact hR.inj i j b c x y n (old i x g hx) K (old j y z A) e
  .exact .inr (mixed i b x j c y g o n hx z C A e)
  .exact .inr (mixed j c y i b x z C K A g o hx e.symm).symm
  .exact hR'.inj i j b c x y g hx z A e
 .intro id b hb;rw[hn'];rcases split id b hb with⟨g,_,_⟩|⟨g,_⟩
  .omega
  .exact hR'.live id b g
 .intro id hid hb
  cases hh:Hi.blk.get id with
  | none=>exact hout id hid hh
  | some b'=>rw[hin id b' hid hh,hX.apart id (by rw[hn];exact hid) hb,hh,a _ _ hh]
 .intro id b hid hb;rcases split id b hb with⟨_,_,n⟩|⟨_,o⟩
  .exact⟨b,n⟩
  .obtain⟨b',k⟩:=o hid;exact⟨b',a _ _ k⟩
 .intro id hid;have t:id<H.next:=Nat.lt_of_lt_of_le hid hR.base
  cases hh:Hi.blk.get id with
  | none=>exact hout id t hh
  | some b'=>rw[hin id b' t hh,hX.ro id hid,hh,a _ _ hh]
 .intro id x hid hx;rcases hX.new id x (by rw[hn];exact hid) hx with h|h
  .exact .inl h
  .exact .inr (f _ h)
 .intro c hc L;exact hX.frame c hc fun h=>L (f _ h)
theorem Rel.part{P:Program}{β:Inj}{H Hi:Heap}{w:World}(hR:Rel P β H w)(hn:Hi.next=H.next)(a:∀id b,Hi.blk.get id=some b->H.blk.get id=some b):Rel P β Hi w where
 base:=by rw[hn];exact hR.base
 blk:=fun id b x h1 h2=>hR.blk id b x (a _ _ h1) h2
 inj:=fun i j b c x y h1 h2 h3 f e=>hR.inj i j b c x y (a _ _ h1) h2 (a _ _ h3) f e
 bnd:=fun id x h=>by rw[hn];exact hR.bnd id x h
 live:=fun id b h=>by rw[hn];exact hR.live id b (a _ _ h)
theorem VT{t:Tr zo}:∀ {l:List (Nat×zo)},zbJ t l=true->∀p∈l,t.get p.1=some p.2
 | [],_,p,hp=>by cases hp
 | q::l,h,p,hp=>by
  have h:zn (zh (t.get q.1) false fun b=>Zh b q.2) (zbJ t l)=true:=h;rw[zk,Bool.and_eq_true]at h;rcases List.mem_cons.1 hp with rfl|hp
  .cases a:t.get p.1 with
   | none=>rw[a]at h;exact absurd h.1 (by simp)
   | some b=>rw[a]at h;rw[yy h.1]
  .exact VT h.2 p hp
theorem zqU{g:FuncId}{as:List zb}{H:Heap}{q:zb×Heap}{f:Fact}(h:zmo g as H f=some q) :
  ∃rin rout n,f = .memo g as H.next rin rout q.1 n/\q.2=yq H rin rout n/\∀p∈rin,H.blk.get p.1=some p.2:=by
 cases f
 case memo h' bs nx rin rout r n=>
  obtain⟨h1,h⟩:=zg h;simp only[zk,Bool.and_eq_true,zu,beq_iff_eq]at h1;obtain⟨e,a,c,b⟩:=h1;have a:=jC _ _ a;cases h;subst e;subst a;subst c;exact⟨rin,rout,n,rfl,rfl,VT b⟩
 all_goals cases h
theorem zlr{E:Env}{β:Inj}(hF:zC E β){H:Heap}{w:World}(hR:Rel E.P β H w){a p:zb}(h:zbT E H a p=true)(k:WF β a):zsE β w p (zc β a):=by
 unfold zbT at h;unfold zsE
 cases hp:QQ p with
 | none=>
  rw[hp,zm]at h;obtain rfl:=zM _ _ h
  exact⟨k,rfl⟩
 | some q=>
  rw[hp,zd,zl]at h;split at h
  case isFalse=>cases h
  rename_i hs
  cases f:Y6 E H a with
  | none=>rw[f]at h;cases h
  | some v=>
   rw[f,zd]at h;have hv:=zM _ _ h
   suffices key:WF β v/\∃s b o cap,zc β v = .string s/\zc β a = .slice (some ⟨b,o,none⟩) s.size cap/\s.size<=cap/\∀i (c:UInt8),s.data[i]?=some c->w.cell? ⟨b,o+i,none⟩=some (.int .u8 c.toNat) by
    rw[hv]at key;exact key
   clear hv h;unfold Y6 at f
   cases y:QQ a with
   | some r=>
    rw[y,zd]at f;obtain rfl:=JO y;obtain⟨b,hb,f⟩:=ze f;obtain⟨t,n,f⟩:=ze f;obtain⟨z,f⟩:=zg f;cases f;have z:=zM _ _ z;obtain rfl:=Vb n;obtain⟨C,w2,s,m,B⟩:=k;obtain⟨arr,fz,J,I⟩:=hR.zjE hb C
    exact⟨w2,s,β.blk r.1,β.sh r.1,β.ext r.1,m,by simp[zc,m,sOf,Inj.addr],B,fun i c hc=>by
     rw[cell_of J]
     exact I.cell i c (by rw[z,m];exact hc)⟩
   | none=>
    rw[y,zm]at hs f
    cases g:kN a with
    | none=>rw[g]at hs;cases hs
    | some e=>
     rw[g,zd]at f;obtain rfl:=jP g;have hle:e.len<=(if e.ex then e.cap else e.cap+β.ext e.b):=by have:=k.2;split<;>omega
     rcases zev hF f with⟨A,rfl⟩|⟨cs,hl,key⟩
     .exact⟨by simp[WF],.empty,β.blk e.b,β.sh e.b+e.off,(if e.ex then e.cap else e.cap+β.ext e.b),rfl,by simp only[zc,Inj.addr,A];rfl,by rw[A]at hle;exact hle,fun i c hc=>by simp at hc⟩
     .obtain⟨u,D,k2,k3⟩:=key;obtain⟨r,j,hl⟩:=ze hl;obtain⟨g1,G⟩:=Tr.jx _ _ _ _ hl
      have hlen:u.size=e.len:=by
       have:=congrArg List.length k3;rw[zx,length_map,length_map,g1]at this;exact this.symm
      refine⟨D,u,β.blk e.b,β.sh e.b+e.off,(if e.ex then e.cap else e.cap+β.ext e.b),k2,by simp only[zc,Inj.addr,hlen],by rw[hlen];exact hle,fun i c hc=>?_⟩;have hi:=(Array.getElem?_eq_some_iff.1 hc).1;have hi:i<u.size:=hi;have h1:=congrArg (fun l:List Value=>l[i]?) k3;simp only[zx,List.getElem?_map,getElem?_toList,hc,map_some]at h1
      cases hx:cs[i]? with
      | none=>rw[hx]at h1;cases h1
      | some x=>
       rw[hx]at h1;have h1:zc β x = .int .u8 c.toNat:=Option.some.inj h1;have h2:=(hR.cell j k.1 (by rw[G i (by omega)];exact hx)).1;rw[h1]at h2;rw[<- h2,Inj.addr,Nat.add_assoc]
theorem zdM{E:Env}{β:Inj}(hF:zC E β){H:Heap}{w:World}(hR:Rel E.P β H w):∀ {l m:List zb},zbS E H l m=true->WFs β l->zlH β w m (zf β l)
 | [],[],_,_=>trivial
 | [],_::_,h,_=>by cases h
 | _::_,[],h,_=>by cases h
 | a::l,p::m,h,hw=>by
  have h:zn (zbT E H a p) (zbS E H l m)=true:=h;rw[zk,Bool.and_eq_true]at h;exact⟨zlr hF hR h.1 hw.1,zdM hF hR h.2 hw.2⟩
theorem zqR{E:Env}{g:FuncId}{as:List zb}{H:Heap}{r:zb}{f:Fact}(h:zmm E g as H f=some r):∃bs,f = .read g bs r/\zbS E H as bs=true:=by
 cases f
 case read h' bs r'=>
  obtain⟨h1,h⟩:=zg h;rw[zk,Bool.and_eq_true,zu,beq_iff_eq]at h1;cases h;exact⟨bs,by rw[h1.1],h1.2⟩
 all_goals cases h
end
section
variable[Unk]
def zvq(v:zb):List zb:=match v with|.agg l=>l|_=>[]
theorem X5(b:Nat->Nat):∀l,jH b (.agg l) = .agg (X4 b l)
 | []=>rfl
 | a::l=>by
  show zb.agg (jH b a::zvq (jH b (.agg l)))=_;rw[X5 b l];rfl
theorem zj7(a:Nat->Nat)(l:List zb):jH a (.tuple l) = .tuple (X4 a l):=by
 show zb.tuple (zvq (jH a (.agg l)))=_;rw[X5];rfl
theorem zs1(a:Nat->Nat)(f:FuncId)(l m:List zb):jH a (.fn f l m) = .fn f (X4 a l) (X4 a m):=by
 show zb.fn f (zvq (jH a (.agg l))) (zvq (jH a (.agg m)))=_;rw[X5,X5];rfl
def under(β:Inj)(ρ:Nat->Nat):Inj:=fun i=>β (ρ i)
mutual
theorem kB(d:Inj)(a:Nat->Nat):∀v,zc d (jH a v)=zc (under d a) v/\(WF d (jH a v)↔WF (under d a) v)
 | .bool _=>⟨rfl,Iff.rfl⟩
 | .int _ _=>⟨rfl,Iff.rfl⟩
 | .str _=>⟨rfl,Iff.rfl⟩
 | .nilp=>⟨rfl,Iff.rfl⟩
 | .ptr b o=>by
  have e:jH a (.ptr b o) = .ptr (a b) o:=zY _ _
  rw[e];exact⟨rfl,Iff.rfl⟩
 | .nilslice=>⟨rfl,Iff.rfl⟩
 | .slice b o l c x=>by
  have e:jH a (.slice b o l c x) = .slice (a b) o l c x:=zY _ _
  rw[e];exact⟨rfl,Iff.rfl⟩
 | .nilmap=>⟨rfl,Iff.rfl⟩
 | .map r=>by
  have e:jH a (.map r) = .map (a r):=zY _ _
  rw[e];exact⟨rfl,Iff.rfl⟩
 | .fn f l m=>by
  obtain⟨g,h⟩:=Jz d a l;obtain⟨k,j⟩:=Jz d a m;have e:=zs1 a f l m;rw[e]
  exact⟨by simp only[zc,g,k],by simp only[WF,h,j]⟩
 | .yieldf l=>by
  have e:jH a (.yieldf l) = .yieldf (a l):=zY _ _
  rw[e];exact⟨rfl,Iff.rfl⟩
 | .capv b c=>by
  have e:jH a (.capv b c) = .capv (a b) c:=zY _ _
  rw[e];exact⟨rfl,Iff.rfl⟩
 | .nilfn=>⟨rfl,Iff.rfl⟩
 | .iface t v=>by
  obtain⟨g,h⟩:=kB d a v;have e:jH a (.iface t v) = .iface t (jH a v):=rfl;rw[e]
  exact⟨by simp only[zc,g],h⟩
 | .niliface=>⟨rfl,Iff.rfl⟩
 | .agg l=>by
  obtain⟨g,h⟩:=Jz d a l;have e:=X5 a l;rw[e]
  exact⟨by simp only[zc,g],h⟩
 | .tuple l=>by
  obtain⟨g,h⟩:=Jz d a l;have e:=zj7 a l;rw[e]
  exact⟨by simp only[zc,g],h⟩
 | .sym i=>by
  have e:jH a (.sym i) = .sym (a i):=zY _ _
  rw[e];exact⟨rfl,Iff.rfl⟩
 | .esl b o q=>by
  have e:jH a (.esl b o q) = .esl (a b) o q:=zY _ _
  rw[e];exact⟨rfl,Iff.rfl⟩
 | .osl b v=>by
  obtain⟨g,h⟩:=kB d a v;have e:jH a (.osl b v) = .osl (a b) (jH a v):=zY _ _;rw[e];refine⟨by simp only[zc,g];rfl,?_⟩;simp only[WF,g,h]
  exact Iff.rfl
 | .psl b o q c x=>by
  have e:jH a (.psl b o q c x) = .psl (a b) o (a q) c x:=(zY _ _).trans (zY _ _);rw[e];exact⟨rfl,Iff.rfl⟩
theorem Jz(b:Inj)(a:Nat->Nat):∀l,zf b (X4 a l)=zf (under b a) l/\(WFs b (X4 a l)↔WFs (under b a) l)
 | []=>⟨rfl,Iff.rfl⟩
 | v::l=>by
  obtain⟨g,f⟩:=kB b a v;obtain⟨d,c⟩:=Jz b a l;have e:X4 a (v::l)=jH a v::X4 a l:=rfl;rw[e];exact⟨by simp only[zf,g,d],by simp only[WFs,f,c]⟩
end
theorem zl7{P:Program}{k:Inj}{d:Nat->Nat}{b:zo}{x:Nat×Nat×Nat}{w:World}(hl:(ya b).isNone=true):zH P k (zhH d b) x w↔zH P (under k d) b x w:=by
 cases b with
 | cells t n c=>
  constructor
  .rintro⟨arr,fz,h1,h2⟩
   refine⟨arr,fz,h1,h2.size,fun i v hv=>?_,h2.thaw,h2.al⟩;obtain⟨j,l⟩:=h2.cell i (jH d v) (by rw[Jm,hv];rfl);exact⟨(kB k d v).2.1 j,by rw[<- (kB k d v).1];exact l⟩
  .rintro⟨arr,fz,h1,h2⟩
   refine⟨arr,fz,h1,h2.size,fun i v hv=>?_,h2.thaw,h2.al⟩;rw[Jm]at hv;obtain⟨u,o,rfl⟩:=Option.map_eq_some_iff.1 hv;obtain⟨j,l⟩:=h2.cell i u o
   exact⟨(kB k d u).2.2 j,by rw[(kB k d u).1];exact l⟩
 | map es clock=>
  have key:∀e:zb×zb×Nat,WF (under k d) e.1->zaV e.1=true->QN (under k d) e=QN k (e.1,jH d e.2.1,e.2.2):=fun e l m=>by
   simp only[QN];rw[(kB k d _).1,(YI (β':=k) m l).2]
  constructor
  .rintro⟨arr,h1,h2,h3⟩
   have r:∀e∈es,WF (under k d) e.2.1/\WF (under k d) e.1/\zaV e.1=true:=fun e he=>by
    obtain⟨j,l,m⟩:=h3 (e.1,jH d e.2.1,e.2.2) (by rw[jn];exact List.mem_map.2 ⟨e,he,rfl⟩);exact⟨(kB k d _).2.1 j,(YI m l).1,m⟩
   refine⟨arr,h1,?_,r⟩;rw[h2,jn,List.map_map];exact List.map_congr_left fun e he=>(key e (r e he).2.1 (r e he).2.2).symm
  .rintro⟨arr,h1,h2,h3⟩
   refine⟨arr,h1,?_,?_⟩
   .rw[h2,jn,List.map_map];exact List.map_congr_left fun e he=>key e (h3 e he).2.1 (h3 e he).2.2
   .intro e he;rw[jn]at he;obtain⟨u,o,rfl⟩:=List.mem_map.1 he;obtain⟨j,l,m⟩:=h3 u o
    exact⟨(kB k d _).2.2 j,(YI m l).1,m⟩
 | loop a b c e f g h i=>cases hl
 | siter s p=>exact Iff.rfl
 | text t v=>
  obtain⟨j,l⟩:=kB k d v;constructor
  .rintro⟨arr,fz,h1,h2⟩
   exact⟨arr,fz,h1,l.1 h2.wf,by rw[<- j];exact h2.is,h2.size,by rw[<- j];exact h2.cell,h2.thaw,h2.one⟩
  .rintro⟨arr,fz,h1,h2⟩
   exact⟨arr,fz,h1,l.2 h2.wf,by rw[j];exact h2.is,h2.size,by rw[j];exact h2.cell,h2.thaw,h2.one⟩
 | ints t v=>
  obtain⟨j,l⟩:=kB k d v;constructor
  .rintro⟨arr,fz,h1,h2⟩
   exact⟨arr,fz,h1,l.1 h2.wf,by rw[<- j];exact h2.is,h2.size,by rw[<- j];exact h2.cell,h2.thaw,h2.one⟩
  .rintro⟨arr,fz,h1,h2⟩
   exact⟨arr,fz,h1,l.2 h2.wf,by rw[j];exact h2.is,h2.size,by rw[j];exact h2.cell,h2.thaw,h2.one⟩
 | view c=>
  constructor
  .rintro⟨arr,t,fz,h1,h2⟩
   refine⟨arr,t,fz,h1,fun i v hv=>?_⟩;have h3:=h2 i (jH d v) (by show(YF (jH d) c).get i=_;rw[Jm,hv];rfl);obtain⟨j,l⟩:=kB k d v;exact⟨l.1 h3.1,by rw[<- j];exact h3.2⟩
  .rintro⟨arr,t,fz,h1,h2⟩
   refine⟨arr,t,fz,h1,fun i v hv=>?_⟩;have hv:(YF (jH d) c).get i=some v:=hv;rw[Jm]at hv;obtain⟨u,o,rfl⟩:=Option.map_eq_some_iff.1 hv;obtain⟨j,l⟩:=kB k d u;obtain⟨z,y⟩:=h2 i u o
   exact⟨l.2 z,by rw[j];exact y⟩
 | pack t n N=>
  constructor
  .rintro⟨arr,fz,h1,h2⟩
   exact⟨arr,fz,h1,h2.bytes⟩
  .rintro⟨arr,fz,h1,h2⟩
   exact⟨arr,fz,h1,h2.bytes⟩
theorem yn:∀(l:List (Nat×zo)) (t:Tr zo) (id:Nat) (b:zo),(qb l t).get id=some b->(id,b)∈l\/((∀p∈l,p.1≠id)/\t.get id=some b)
 | [],t,id,b,h=>.inr ⟨by simp,h⟩
 | p::l,t,id,b,h=>by
  have h:((qb l t).set p.1 p.2).get id=some b:=h;rw[Tr.zK]at h;by_cases hp:p.1=id
  .rw[if_pos hp]at h;cases h;subst hp;exact .inl mem_cons_self
  .rw[if_neg hp]at h;rcases yn l t id b h with h|⟨h1,h2⟩
   .exact .inl (mem_cons_of_mem _ h)
   .refine .inr ⟨fun q hq=>?_,h2⟩;rcases List.mem_cons.1 hq with rfl|hq
    .exact hp
    .exact h1 q hq
theorem Qh:∀(l:List (Nat×zo)) (t:Tr zo) (id:Nat),(∀p∈l,p.1≠id)->(qb l t).get id=t.get id
 | [],_,_,_=>rfl
 | p::l,t,id,h=>by
  show((qb l t).set p.1 p.2).get id=_;rw[Tr.zK,if_neg (h p mem_cons_self)];exact Qh l t id fun q hq=>h q (mem_cons_of_mem _ hq)
theorem UW:∀(l:List (Nat×zo)) (t:Tr zo) (p:Nat×zo),p∈l->∃b,(qb l t).get p.1=some b
 | q::l,t,p,h=>by
  have e:(qb (q::l) t).get p.1=((qb l t).set q.1 q.2).get p.1:=rfl;rw[e,Tr.zK];by_cases hp:q.1=p.1
  .exact⟨_,if_pos hp⟩
  .rw[if_neg hp];rcases List.mem_cons.1 h with rfl|h
   .exact absurd rfl hp
   .exact UW l t p h
theorem Xt:∀(l:List (Nat×zo)) (t:Tr zo) (id:Nat),(∀p∈l,p.1≠id)->(Xu l t).get id=t.get id
 | [],_,_,_=>rfl
 | p::l,t,id,h=>by
  show((Xu l t).del p.1).get id=_;rw[Tr.jc,if_neg (h p mem_cons_self)];exact Xt l t id fun q hq=>h q (mem_cons_of_mem _ hq)
theorem WZ:∀(l:List (Nat×zo)) (t:Tr zo) (p:Nat×zo),p∈l->(Xu l t).get p.1=none
 | q::l,t,p,h=>by
  show((Xu l t).del q.1).get p.1=_;rw[Tr.jc];by_cases hp:q.1=p.1
  .exact if_pos hp
  .rw[if_neg hp];rcases List.mem_cons.1 h with rfl|h
   .exact absurd rfl hp
   .exact WZ l t p h
theorem zkG{c x:Bool}(h:ifB c x false=true):c=true/\x=true:=by
 cases c with
 | true=>exact⟨rfl,h⟩
 | false=>cases h
theorem KL{a:Nat->Nat}{v:zb}(h:zkt v=true):jH a v=v:=by
 cases v<;>first|rfl|cases h
theorem zeT{b:Nat->Nat}:∀ {t:Tr zb},zh3 t=true->YF (jH b) t=t:=by
 intro t
 induction t with
 | nil=>intro _;rfl
 | node l v r d c=>
  intro h;have h:ifB (zh v true zkt) (ifB (zh3 l) (zh3 r) false) false=true:=h;obtain⟨h1,h⟩:=zkG h;obtain⟨h2,h3⟩:=zkG h;have e:YF (jH b) (.node l v r) = .node (YF (jH b) l) (zh v none fun a=>some (jH b a)) (YF (jH b) r):=rfl;rw[e,d h2,c h3]
  cases v with
  | none=>rfl
  | some a=>rw[zd,KL h1]
theorem zeU{a:Nat->Nat}:∀ {es:UI},zqw es=true->mapA (fun e=>(e.1,jH a e.2.1,e.2.2)) es=es
 | [],_=>rfl
 | e::es,h=>by
  have h:ifB (zkt e.2.1) (zqw es) false=true:=h;obtain⟨h1,h2⟩:=zkG h;have b:mapA (fun e:zb×zb×Nat=>(e.1,jH a e.2.1,e.2.2)) (e::es)=(e.1,jH a e.2.1,e.2.2)::mapA (fun e=>(e.1,jH a e.2.1,e.2.2)) es:=rfl;rw[b,zeU h2,KL h1]
theorem zl6(a:Nat->Nat)(b:zo):zpG a b=zhH a b:=by
 unfold zpG;rw[zl];split
 .rename_i h
  cases b with
  | cells t n c=>exact congrArg (zo.cells t n) (zeT h).symm
  | map es k=>
   exact congrArg (zo.map · k) (zeU h).symm
  | loop=>rfl
  | siter=>rfl
  | text t v=>exact congrArg (zo.text t) (KL h).symm
  | pack=>rfl
  | ints t v=>exact congrArg (zo.ints t) (KL h).symm
  | view c=>exact congrArg zo.view (zeT h).symm
 .rfl
theorem X7(a:Nat->Nat)(p:Nat×zo)(l:List (Nat×zo))(t:Tr zo):X8 a (p::l) t=(X8 a l t).set (a p.1) (zhH a p.2):=by
 rw[<- zl6];exact zY _ _
theorem VF(a:Nat->Nat):∀(l:List (Nat×zo)) (t:Tr zo) (id:Nat) (b:zo),(X8 a l t).get id=some b->(∃p∈l,id=a p.1/\b=zhH a p.2)\/((∀p∈l,a p.1≠id)/\t.get id=some b)
 | [],t,id,b,h=>.inr ⟨by simp,h⟩
 | p::l,t,id,b,h=>by
  have e:=X7 a p l t;rw[e,Tr.zK]at h;by_cases hp:a p.1=id
  .rw[if_pos hp]at h;cases h;exact .inl ⟨p,mem_cons_self,hp.symm,rfl⟩
  .rw[if_neg hp]at h;rcases VF a l t id b h with⟨q,hq,h1,h2⟩|⟨h1,h2⟩
   .exact .inl ⟨q,mem_cons_of_mem _ hq,h1,h2⟩
   .refine .inr ⟨fun q hq=>?_,h2⟩;rcases List.mem_cons.1 hq with rfl|hq
    .exact hp
    .exact h1 q hq
theorem zeE(a:Nat->Nat):∀(l:List (Nat×zo)) (t:Tr zo) (p:Nat×zo),p∈l->∃b,(X8 a l t).get (a p.1)=some b
 | q::l,t,p,h=>by
  have e:=X7 a q l t;rw[e,Tr.zK];by_cases hp:a q.1=a p.1
  .exact⟨_,if_pos hp⟩
  .rw[if_neg hp];rcases List.mem_cons.1 h with rfl|h
   .exact absurd rfl hp
   .exact zeE a l t p h
theorem VE(a:Nat->Nat):∀(l:List (Nat×zo)) (t:Tr zo) (id:Nat),(∀p∈l,a p.1≠id)->(X8 a l t).get id=t.get id
 | [],_,_,_=>rfl
 | p::l,t,id,h=>by
  have e:=X7 a p l t;rw[e,Tr.zK,if_neg (h p mem_cons_self)];exact VE a l t id fun q hq=>h q (mem_cons_of_mem _ hq)
theorem Xs(a:Nat->Nat):∀(l:List (Nat×zo)) (t:Tr zo) (id:Nat),(∀p∈l,a p.1≠id)->(Yp a l t).get id=t.get id
 | [],_,_,_=>rfl
 | p::l,t,id,h=>by
  have e:Yp a (p::l) t=(Yp a l t).del (a p.1):=zY _ _;rw[e,Tr.jc,if_neg (h p mem_cons_self)];exact Xs a l t id fun q hq=>h q (mem_cons_of_mem _ hq)
theorem zfg(a:Nat->Nat):∀(l:List (Nat×zo)) (t:Tr zo) (p:Nat×zo),p∈l->(Yp a l t).get (a p.1)=none
 | q::l,t,p,h=>by
  have e:Yp a (q::l) t=(Yp a l t).del (a q.1):=zY _ _;rw[e,Tr.jc];by_cases hp:a q.1=a p.1
  .exact if_pos hp
  .rw[if_neg hp];rcases List.mem_cons.1 h with rfl|h
   .exact absurd rfl hp
   .exact zfg a l t p h
theorem zkz{P:Program}{tabs:List (Nat×zo)}{β0 k:Inj}{f:FuncId}{args:List zb}{nx:Nat}{rin rout:List (Nat×zo)}{r:zb}{n:Nat}
  (hM:Zj P tabs β0 f args nx rin rout r n) (hle:β0.le k) {H:Heap}{w:World} (hR:Rel P k H w) (hat:∀g,g<100->k g=some (Unk.place g))
  (htabs:∀p∈tabs,p.1<100/\H.blk.get p.1=some p.2) (htab:∀p∈tabs,zsw P p.2/\(jq tabs).get p.1=some p.2)
  {ρ:Nat->Nat}{N:Nat} (h60:100<=N) (hN:N<=nx) (hlow:∀id,N<=id->β0 id=none) (r1:∀id,id<N->ρ id=id) (r2:∀id,id<nx->ρ id<H.next) (r3:∀id,nx<=id->ρ id=H.next+(id-nx))
  (hrin:∀p∈rin,N<=p.1/\p.1<nx/\100<=ρ p.1/\(ya p.2).isNone=true/\H.blk.get (ρ p.1)=some (zhH ρ p.2)) (r4:∀p∈rin,∀q∈rin,ρ p.1=ρ q.1->p.1=q.1)
  (hself:∀p∈rin,(qb rin (jq tabs)).get p.1=some p.2) (hrout:∀p∈rout,N<=p.1/\(ya p.2).isNone=true) (hself2:∀t,∀p∈rout,(qb rout t).get p.1=some p.2) (hargs:WFs k (X4 ρ args)) :
  Calls P f (zf k (X4 ρ args)).toArray w fun e w2=>∃K,e = .returned (zc K (jH ρ r))/\WF K (jH ρ r)/\Rel P K (zbB ρ H rin rout (H.next+(n-nx))) w2/\Ext k H w K (zbB ρ H rin rout (H.next+(n-nx))) w2:=by
 have h1:∀id,nx<=id->under k ρ id=none:=fun id hid=>by
  cases hx:under k ρ id with
  | none=>rfl
  | some x=>have:=hR.bnd _ _ hx;rw[r3 id hid]at this;omega
 have A:∀id,id<100->ρ id=id:=fun id hid=>r1 id (by omega)
 have o:∀id b,(qb rin (jq tabs)).get id=some b->(∃p∈rin,p.1=id/\p.2=b)\/(id<100/\zsw P b/\H.blk.get id=some b):=by
  intro id b hb;rcases yn rin _ id b hb with hm|⟨_,hm⟩
  .exact .inl ⟨_,hm,rfl,rfl⟩
  .have X:=kP _ _ _ hm;exact .inr ⟨(htabs _ X).1,(htab _ X).1,(htabs _ X).2⟩
 let H1:Heap:=⟨qb rin (jq tabs),nx⟩
 have hH:∀id b,H1.blk.get id=some b->∃c,H.blk.get (ρ id)=some c:=by
  intro id b hb;rcases o id b hb with⟨p,hp,rfl,rfl⟩|⟨h2,_,h3⟩
  .exact⟨_,(hrin p hp).2.2.2.2⟩
  .rw[A id h2];exact⟨_,h3⟩
 have U:∀g,g<100->under k ρ g=some (Unk.place g):=fun g hg=>by unfold under;rw[A g hg];exact hat g hg
 have hinjρ:∀i j b c,H1.blk.get i=some b->H1.blk.get j=some c->ρ i=ρ j->i=j:=by
  intro i j b c hb hc e;rcases o i b hb with⟨p,hp,rfl,rfl⟩|⟨h2,_,_⟩<;>rcases o j c hc with⟨q,hq,rfl,rfl⟩|⟨h3,_,_⟩
  .exact r4 p hp q hq e
  .rw[A j h3]at e;have:=(hrin p hp).2.2.1;omega
  .rw[A i h2]at e;have:=(hrin q hq).2.2.1;omega
  .rwa[A i h2,A j h3]at e
 have hR1:Rel P (under k ρ) H1 w:=by
  refine⟨Nat.le_trans h60 hN,?_,?_,?_,?_⟩
  .intro id b x hb hx;rcases o id b hb with⟨p,hp,rfl,rfl⟩|⟨h2,h3,J⟩
   .exact(zl7 (hrin p hp).2.2.2.1).1 (hR.blk _ _ x (hrin p hp).2.2.2.2 hx)
   .have Q:k id=some x:=by rw[<- A id h2];exact hx
    exact h3 _ _ _ _ hat U (hR.blk id b x J Q)
  .intro i j b c x y hb hx hc D e;obtain⟨b',z⟩:=hH i b hb;obtain⟨c',hc'⟩:=hH j c hc;rcases hR.inj _ _ _ _ _ _ z hx hc' D e with h|⟨h,h'⟩
   .exact .inl (hinjρ i j b c hb hc h)
   .refine .inr ⟨?_,?_⟩
    .rcases o i b hb with⟨p,hp,rfl,rfl⟩|⟨h2,_,_⟩
     .have:=(hrin p hp).2.2.1;omega
     .exact h2
    .rcases o j c hc with⟨p,hp,rfl,rfl⟩|⟨h2,_,_⟩
     .have:=(hrin p hp).2.2.1;omega
     .exact h2
  .intro id x hx;show id<nx;rcases Nat.lt_or_ge id nx with h|h
   .exact h
   .rw[h1 id h]at hx;cases hx
  .intro id b hb;show id<nx;rcases o id b hb with⟨p,hp,rfl,rfl⟩|⟨h2,_,_⟩
   .exact(hrin p hp).2.1
   .omega
 have hle1:β0.le (under k ρ):=fun id x hx=>by
  have:id<N:=by
   rcases Nat.lt_or_ge id N with h|h
   .exact h
   .rw[hlow id h]at hx;cases hx
  unfold under;rw[r1 id this];exact hle id x hx
 have T:∀p∈tabs,p.1<100/\H1.blk.get p.1=some p.2:=fun p hp=>by
  refine⟨(htabs p hp).1,?_⟩;show(qb rin (jq tabs)).get p.1=_;rw[Qh rin _ _ fun q hq e=>by have:=(hrin q hq).1;have:=(htabs p hp).1;omega];exact(htab p hp).2
 have O:=hM (under k ρ) H1 w hle1 hR1 U T rfl hself ((Jz k ρ args).2.1 hargs);rw[<- (Jz k ρ args).1]at O;refine O.mono fun e w2 hx=>?_;obtain⟨K,rfl,a1,a2,L⟩:=hx;have hnn:nx<=n:=L.next;let γ':Inj:=fun id=>if id<H.next then k id else K (id-H.next+nx)
 have u:∀id,id<H.next->γ' id=k id:=fun id h=>if_pos h;have hge:∀id,H.next<=id->γ' id=K (id-H.next+nx):=fun id h=>if_neg (by omega)
 have C:under γ' ρ=K:=by
  funext id
  rcases Nat.lt_or_ge id nx with h|h
  .show γ' (ρ id)=K id;rw[u _ (r2 id h),L.old id h];rfl
  .show γ' (ρ id)=K id;rw[r3 id h,hge _ (le_add_right _ _)];congr 1
   omega
 have hv:=kB γ' ρ r;rw[C]at hv;have hleγ:k.le γ':=fun id x hx=>by rw[u id (hR.bnd _ _ hx)];exact hx
 have G:∀c,Range (under k ρ) H1 c->Range k H c:=by
  rintro c ⟨id,b,x,g1,g2,g3,rfl⟩
  rcases o id b g2 with⟨p,hp,rfl,rfl⟩|⟨h2,_,_⟩
  .exact⟨ρ p.1,_,x,(hrin p hp).2.2.1,(hrin p hp).2.2.2.2,g3,rfl⟩
  .omega
 have a:∀p∈rout,(yq H1 rin rout n).blk.get p.1=some p.2:=fun p hp=>hself2 _ p hp
 have Z:∀id,(∀p∈rout,p.1≠id)->(∃p∈rin,p.1=id)->(yq H1 rin rout n).blk.get id=none:=by
  rintro id h ⟨p,hp,rfl⟩
  show(qb rout (Xu rin H1.blk)).get p.1=none;rw[Qh rout _ _ h,WZ rin _ p hp]
 have hold:∀p∈rout,p.1<nx->∃q∈rin,q.1=p.1:=by
  intro p hp hlt';obtain⟨b',z⟩:=L.gone p.1 p.2 hlt' (a p hp);rcases o p.1 b' z with⟨q,hq,h2,_⟩|⟨h2,_,_⟩
  .exact⟨q,hq,h2⟩
  .have:=(hrout p hp).1;omega
 have Y:∀p∈rout,∀q∈rout,ρ p.1=ρ q.1->p.1=q.1:=by
  intro p hp q hq e;rcases Nat.lt_or_ge p.1 nx with m|m<;>rcases Nat.lt_or_ge q.1 nx with B|B
  .obtain⟨p2,m1,m2⟩:=hold p hp m;obtain⟨q2,n1,n2⟩:=hold q hq B;rw[<- m2,<- n2]at e ⊢;exact r4 _ m1 _ n1 e
  .have:=r2 _ m;have:=r3 _ B;omega
  .have:=r2 _ B;have:=r3 _ m;omega
  .have:=r3 _ B;have:=r3 _ m;omega
 let H2:Heap:=zbB ρ H rin rout (H.next+(n-nx))
 have l:∀id b,H2.blk.get id=some b->(∃p∈rout,id=ρ p.1/\b=zhH ρ p.2)\/((∀p∈rout,ρ p.1≠id)/\(∀p∈rin,ρ p.1≠id)/\H.blk.get id=some b):=by
  intro id b hb;rcases VF ρ rout _ id b hb with h|⟨h,z⟩
  .exact .inl h
  .by_cases hm:∃p∈rin,ρ p.1=id
   .obtain⟨p,hp,rfl⟩:=hm;rw[zfg ρ rin _ p hp]at z;cases z
   .have hm:∀p∈rin,ρ p.1≠id:=fun p hp e=>hm ⟨p,hp,e⟩;rw[Xs ρ rin _ id hm]at z;exact .inr ⟨h,hm,z⟩
 have hγp:∀p,γ' (ρ p)=K p:=fun p=>congrFun C p
 have M:∀id b x,H.blk.get id=some b->k id=some x->(∀p∈rin,ρ p.1≠id)->¬Range (under k ρ) H1 x.1:=by
  rintro id b x hb hx v ⟨i,c,y,g1,g2,g3,g4⟩
  rcases o i c g2 with⟨p,hp,rfl,rfl⟩|⟨h2,_,_⟩
  .exact v p hp (hR.Ze (.inl (hrin p hp).2.2.1) (hrin p hp).2.2.2.2 g3 hb hx g4)
  .omega
 have I:∀p∈rout,∀j c x y,K p.1=some x->H.blk.get j=some c->k j=some y->(∀q∈rin,ρ q.1≠j)->x.1≠y.1:=by
  intro p hp j c x y hx hc D v e;rcases Nat.lt_or_ge p.1 nx with m|m
  .obtain⟨q,hq,d⟩:=hold p hp m;have Q:k (ρ p.1)=some x:=by rw[<- u _ (r2 _ m),hγp];exact hx
   rw[<- d]at Q;exact v q hq (hR.Ze (.inl (hrin q hq).2.2.1) (hrin q hq).2.2.2.2 Q hc D e)
  .rcases L.new p.1 x m hx with h|h
   .have:=(hR.blk j c y hc D).lt;omega
   .rw[e]at h;exact M j c y hc D v h
 refine⟨γ',by rw[hv.1],hv.2.2 a1,⟨?_,?_,?_,?_,?_⟩,⟨?_,?_,?_,?_,?_,?_,?_,L.size,L.tape,L.os,L.output⟩⟩
 .show 100<=H.next+(n-nx);have:=hR.base;omega
 .intro id b x hb hx;rcases l id b hb with⟨p,hp,rfl,rfl⟩|⟨_,h3,J⟩
  .rw[hγp]at hx;refine(zl7 (hrout p hp).2).2 ?_;rw[C];exact a2.blk p.1 p.2 x (a p hp) hx
  .have hid:=hR.live _ _ J;rw[u id hid]at hx;have hb0:=hR.blk id b x J hx;exact(hb0.heap (L.frame x.1 hb0.lt (M id b x J hx h3))).mono hleγ
 .intro i j b c x y hb hx hc D e;rcases l i b hb with⟨p,hp,rfl,rfl⟩|⟨_,g3,g4⟩<;>rcases l j c hc with⟨q,hq,rfl,rfl⟩|⟨_,k3,k4⟩
  .rw[hγp]at hx D;exact .inl (by rw[a2.Ze (.inl (Nat.le_trans h60 (hrout p hp).1)) (a p hp) hx (a q hq) D e])
  .rw[hγp]at hx;rw[u j (hR.live _ _ k4)]at D;exact absurd e (I p hp j c x y hx k4 D k3)
  .rw[hγp]at D;rw[u i (hR.live _ _ g4)]at hx;exact absurd e.symm (I q hq i b y x D g4 hx g3)
  .rw[u i (hR.live _ _ g4)]at hx;rw[u j (hR.live _ _ k4)]at D;exact hR.inj i j b c x y g4 hx k4 D e
 .intro id x hx;show id<H.next+(n-nx);rcases Nat.lt_or_ge id H.next with h|h
  .omega
  .rw[hge id h]at hx;have:id-H.next+nx<n:=a2.bnd _ _ hx;omega
 .intro id b hb;show id<H.next+(n-nx);rcases l id b hb with⟨p,hp,rfl,_⟩|⟨_,_,J⟩
  .have h5:p.1<n:=a2.live _ _ (a p hp);rcases Nat.lt_or_ge p.1 nx with h|h
   .have:=r2 _ h;omega
   .have:=r3 _ h;omega
  .have:=hR.live _ _ J;omega
 .exact u
 .exact le_add_right _ _
 .intro id hid v;show(X8 ρ rout (Yp ρ rin H.blk)).get id=_;by_cases hm:∃p∈rin,ρ p.1=id
  .obtain⟨p,hp,rfl⟩:=hm;have h2:(yq H1 rin rout n).blk.get p.1=H1.blk.get p.1:=L.apart p.1 (hrin p hp).2.1 v;rw[show H1.blk.get p.1=some p.2 from hself p hp]at h2;by_cases hq:∃q∈rout,q.1=p.1
   .obtain⟨q,hq,d⟩:=hq;have h3:=a q hq;rw[d,h2]at h3;obtain⟨b,hb⟩:=zeE ρ rout (Yp ρ rin H.blk) q hq;rw[d]at hb;rcases VF ρ rout _ _ _ hb with⟨s,hs,J,h5⟩|⟨J,_⟩
    .have h6:=Y q hq s hs (by rw[d];exact J);have h7:=a s hs;rw[<- h6,d,h2]at h7;rw[hb,h5,(hrin p hp).2.2.2.2];rw[<- Option.some.inj h7]
    .exact absurd (congrArg ρ d) (J q hq)
   .rw[Z p.1 (fun q B e=>hq ⟨q,B,e⟩) ⟨p,hp,rfl⟩]at h2;cases h2
  .have hm:∀p∈rin,ρ p.1≠id:=fun p hp e=>hm ⟨p,hp,e⟩;rw[VE ρ rout _ id fun p hp e=>?_,Xs ρ rin _ id hm];rcases Nat.lt_or_ge p.1 nx with h|h
   .obtain⟨q,hq,d⟩:=hold p hp h;exact hm q hq (by rw[d];exact e)
   .have:=r3 _ h;omega
 .intro id b hid hb;rcases l id b hb with⟨p,hp,rfl,_⟩|⟨_,_,J⟩
  .rcases Nat.lt_or_ge p.1 nx with h|h
   .obtain⟨q,hq,d⟩:=hold p hp h;rw[<- d];exact⟨_,(hrin q hq).2.2.2.2⟩
   .have:=r3 _ h;omega
  .exact⟨b,J⟩
 .intro id hid;show(X8 ρ rout (Yp ρ rin H.blk)).get id=_;rw[VE ρ rout _ id fun p hp e=>?_,Xs ρ rin _ id fun p hp e=>?_]
  .have:=(hrin p hp).2.2.1;omega
  .rcases Nat.lt_or_ge p.1 nx with h|h
   .obtain⟨q,hq,d⟩:=hold p hp h;have:=(hrin q hq).2.2.1;rw[d]at this;omega
   .have:=r3 _ h;have:=hR.base;omega
 .intro id x hid hx;rw[hge id hid]at hx;rcases L.new _ x (by show nx<=_;omega) hx with h|h
  .exact .inl h
  .exact .inr (G _ h)
 .intro c hc v;exact L.frame c hc fun h=>v (G c h)
theorem zws{nx next:Nat}{l:List (Nat×Nat×Nat)}{id:Nat}(h:nx<=id):ren nx next l id=next+(id-nx):=by
 unfold ren;rw[zl,zG,if_pos (decide_eq_true h)];rfl
theorem zeC{nx next:Nat}{l:List (Nat×Nat×Nat)}{id:Nat}(h:id<nx):ren nx next l id=List.rec (motive:=fun _=>Nat) id (fun x _ a=>ifB (zn (Nat.ble x.1 id) (blt id x.2.1)) (Nat.add x.2.2 (Nat.sub id x.1)) a) l:=by
 unfold ren;rw[zl,zG,if_neg (by simp;omega)]
theorem zaH{N nx next:Nat}{x:Nat×Nat×Nat}{l:List (Nat×Nat×Nat)}(h:UR N nx next (x::l)=true):(N<=x.1/\x.1<=x.2.1/\x.2.1<=nx/\x.2.2+(x.2.1-x.1)<=next)/\UR N nx next l=true:=by
 have h:zn (zn (Nat.ble N x.1) (zn (Nat.ble x.1 x.2.1) (zn (Nat.ble x.2.1 nx) (Nat.ble (Nat.add x.2.2 (Nat.sub x.2.1 x.1)) next)))) (UR N nx next l)=true:=h;simp only[zk,Bool.and_eq_true,zG,decide_eq_true_eq]at h;exact⟨h.1,h.2⟩
theorem zwr{N nx next:Nat}:∀ {l:List (Nat×Nat×Nat)},UR N nx next l=true->N<=nx->∀id,id<N->ren nx next l id=id:=by
 intro l h hN id hid;rw[zeC (by omega)]
 induction l with
 | nil=>rfl
 | cons x l a=>
  obtain⟨h1,h2⟩:=zaH h;show ifB (zn (Nat.ble x.1 id) (blt id x.2.1)) _ _=_;rw[zl,zk,zG,if_neg (by simp;omega)];exact a h2
theorem zwq{N nx next:Nat}:∀ {l:List (Nat×Nat×Nat)},UR N nx next l=true->nx<=next->∀id,id<nx->ren nx next l id<next:=by
 intro l h hN id hid;rw[zeC hid]
 induction l with
 | nil=>show id<next;omega
 | cons x l a=>
  obtain⟨h1,h2⟩:=zaH h;show ifB (zn (Nat.ble x.1 id) (blt id x.2.1)) (Nat.add x.2.2 (Nat.sub id x.1)) _<next
  rw[zl,zk,zG,zN];split
  .rename_i h3;simp only[Bool.and_eq_true,decide_eq_true_eq]at h3;show x.2.2+(id-x.1)<next
   omega
  .exact a h2
theorem zbD(n:Nat):∀l:List Nat,zcR n l=true↔n∈l
 | []=>by simp[zcR]
 | a::l=>by
  have e:zcR n (a::l)=ifB (Nat.beq n a) true (zcR n l):=rfl;rw[e,zl,zu];by_cases h:n=a
  .simp[h]
  .simp[h,zbD n l]
theorem VO{a:Nat->Nat}:∀ {l:List (Nat×zo)}{p:Nat×zo},p∈l->a p.1∈Ym a l
 | q::l,p,h=>by
  have e:Ym a (q::l)=a q.1::Ym a l:=zY _ _;rw[e];rcases List.mem_cons.1 h with rfl|h
  .exact mem_cons_self
  .exact mem_cons_of_mem _ (VO h)
theorem zaR{b:Nat->Nat}:∀ {l:List (Nat×zo)},Je (Ym b l)=true->∀p∈l,∀q∈l,b p.1=b q.1->p.1=q.1
 | [],_,p,hp,_,_,_=>by cases hp
 | a::l,h,p,hp,q,hq,e=>by
  have f:Ym b (a::l)=b a.1::Ym b l:=zY _ _;rw[f]at h;have h:ifB (zcR (b a.1) (Ym b l)) false (Je (Ym b l))=true:=h;rw[zl]at h;split at h
  .cases h
  .rename_i hn;have hn:b a.1 ∉ Ym b l:=fun hm=>hn ((zbD _ _).2 hm);rcases List.mem_cons.1 hp with d|d<;>rcases List.mem_cons.1 hq with c|c
   .rw[d,c]
   .rw[d]at e;exact absurd (e ▸ VO c) hn
   .rw[c]at e;exact absurd (e ▸ VO d) hn
   .exact zaR h p d q c e
theorem YB{N nx:Nat}{b:Nat->Nat}:∀ {l:List (Nat×zo)},zpH N nx b l=true->∀p∈l,N<=p.1/\p.1<nx/\100<=b p.1/\(ya p.2).isNone=true
 | [],_,p,hp=>by cases hp
 | a::l,h,p,hp=>by
  have h:zn (zn (Nat.ble N a.1) (zn (blt a.1 nx) (zn (Nat.ble 100 (b a.1)) (zh (ya a.2) true fun _=>false)))) (zpH N nx b l)=true:=h;simp only[zk,Bool.and_eq_true,zG,zN,decide_eq_true_eq]at h;rcases List.mem_cons.1 hp with rfl|hp
  .refine⟨h.1.1,h.1.2.1,h.1.2.2.1,?_⟩;have c:=h.1.2.2.2
   cases hl:ya p.2 with
   | none=>rfl
   | some x=>rw[hl]at c;cases c
  .exact YB h.2 p hp
theorem za7{c:Nat->Nat}{t:Tr zo}:∀ {l:List (Nat×zo)},zgm c t l=true->∀p∈l,t.get (c p.1)=some (zhH c p.2)
 | [],_,p,hp=>by cases hp
 | a::l,h,p,hp=>by
  have h:zn (frc (c a.1) fun m=>zh (t.get m) false fun b=>Zh b (zpG c a.2)) (zgm c t l)=true:=h;rw[zl6]at h;rw[zk,Bool.and_eq_true,zY]at h;rcases List.mem_cons.1 hp with rfl|hp
  .have h1:=h.1
   cases d:t.get (c p.1) with
   | none=>rw[d]at h1;cases h1
   | some b=>rw[d,zd]at h1;rw[yy h1]
  .exact za7 h.2 p hp
theorem znV{P:Program}{tabs:List (Nat×zo)}{a:Inj}{H H':Heap}{w:World}{g:FuncId}{as:List zb}{f:Fact}{v:zb}(h:zga g as H f=some (v,H'))(x:zq P tabs a f)(hR:Rel P a H w)(i:∀g,g<100->a g=some (Unk.place g))
  (htabs:∀p∈tabs,p.1<100/\H.blk.get p.1=some p.2) (hargs:WFs a as) :
  Calls P g (zf a as).toArray w fun e w2=>∃d,e = .returned (zc d v)/\WF d v/\Rel P d H' w2/\Ext a H w d H' w2:=by
 cases f with
 | memoG k N b bs nx rin rout r n=>
  have h:ifB (Nat.beq g k) (bnd (zpw as H b) fun l=>ifB (zn (Nat.ble nx H.next) (zn (Nat.ble 100 N) (Nat.ble N nx))) (zrv as bs H N nx rin rout r n l (ren nx H.next l)) none) none=some (v,H'):=h;obtain⟨j,m⟩:=zg h;rw[zu,beq_iff_eq]at j;clear h;subst j;obtain⟨l,_,h⟩:=ze m;clear m;obtain⟨h1,h⟩:=zg h;simp only[zk,Bool.and_eq_true,zG,decide_eq_true_eq]at h1;obtain⟨h1,h60,hN⟩:=h1;unfold zrv at h;obtain⟨h2,h⟩:=zg h;simp only[zk,Bool.and_eq_true]at h2;obtain⟨s1,s2,s3,s4,s5⟩:=h2;rw[zY]at h;cases h;have s2:=jC _ _ s2;subst s2;obtain⟨β0,hle,hlow,y,u,t,o,c⟩:=x
  exact zkz y hle hR i htabs c h60 hN hlow (zwr s1 hN) (zwq s1 h1) (fun id hid=>zws hid)
   (fun p hp=>⟨(YB s3 p hp).1,(YB s3 p hp).2.1,(YB s3 p hp).2.2.1,(YB s3 p hp).2.2.2,za7 s5 p hp⟩) (zaR s4) (u _) t o hargs
 | _=>cases h
end
section
variable[Unk]
section
variable{E:Env}(hE:yg E)
include hE
def zm7(E:Env)(rec:Rec):Prop:=
 ∀(f:FuncId) (args:List zb) (H H':Heap) (v:zb) (β:Inj) (w:World),zgJ E (qj E rec f) args H=some (v,H')->Rel E.P β H w->Yv E β H->WFs β args ->
  Res E.P (callFunc f (zf β args).toArray) w (RR E.P β H w v H')
theorem zsq(hN:XH E.P)(I:zgR E){rec:Rec}(u:Wy E rec)(J:zm7 E rec){f:FuncId}{args:List zb}{H H':Heap}{v:zb}(h:zm5 E rec f args H=some (v,H')){β:Inj}{w:World}
  (hR:Rel E.P β H w) (hG:Yv E β H) (hargs:WFs β args):Res E.P (callFunc f (zf β args).toArray) w (RR E.P β H w v H'):=by
 unfold zm5 at h
 cases hs:E.spec.get f with
 | none=>
  rw[hs,zm]at h
  exact Zx hE hN u h hR hG hargs
 | some s=>
  rw[hs,zd]at h;have j:=I f s hs
  cases s with
  | mapsClone=>exact j.res (zdX hR h hargs)
  | indexByte=>exact j.res (zdY hR h hargs)
  | makeNoZero e=>
   obtain⟨T,t,h1,h2,h3⟩:=j
   exact h1.res (zbZ hE hR h hargs h2 h3)
  | same=>
   cases args with
   | nil=>cases h
   | cons a q=>
    replace h:=Q2 h;obtain⟨B,h⟩:=h;subst B;cases h
    exact j.res (qh.sim ⟨rfl,hargs.1⟩ hR)
  | insert=>exact J f args H H' v β w h hR hG hargs
  | compare=>exact j.res (zg3 hR h hargs)
  | count=>exact j.res (zm8 hR h hargs)
  | fact=>
   have h:(bnd (E.funcs.get f) fun fn=>bnd fn.body fun _=>zh (findF (zid f args) E.facts) (zh (findF (zib f args) E.facts) (zh (findF (zmo f args H) E.facts) (zh (findF (zga f args H) E.facts) (zh (findF (zmm E f args H) E.facts) (qj E rec f args H) fun r=>some (r,H)) fun q=>some q) fun q=>some q) fun q=>zoW H q.1 q.2.1 q.2.2.1 q.2.2.2) fun r=>some (r,H))=some (v,H'):=h;replace h:=ze h;obtain⟨fn,i,h⟩:=h;replace h:=ze h;obtain⟨c,k,h⟩:=h;rw[hE.funcs]at i;have hn:fn.name ≠ "runtime.NumGoroutine" := by simpa using hN f fn i
   have b:zZ E.P E.tabs w:=⟨β,hG.at_,fun p hp=>hR.blk p.1 p.2 (Unk.place p.1) (hG.tabs p hp).2 (hG.at_ p.1 (hG.tabs p hp).1)⟩
   cases hc:findF (zid f args) E.facts with
   | none=>
    rw[hc,zm]at h
    cases hm:findF (zib f args) E.facts with
    | none=>
     rw[hm,zm]at h
     cases hq:findF (zmo f args H) E.facts with
     | none=>
      rw[hq,zm]at h
      cases y:findF (zga f args H) E.facts with
      | some q=>
       rw[y,zd]at h;cases h;obtain⟨g,o,e⟩:=qu y;refine⟨.enter f (zf β args).toArray,w,by simp[callFunc,i,hn,k],?_⟩;refine(znV e (hG.facts _ o) hR hG.at_ hG.tabs hargs).mono fun x w' hx=>?_;obtain⟨C,rfl,g1,L,K⟩:=hx
       exact⟨_,rfl,C,rfl,g1,L,K⟩
      | none=>
      rw[y,zm]at h
      cases hd:findF (zmm E f args H) E.facts with
      | none=>
       rw[hd,zm]at h
       exact Zx hE hN u h hR hG hargs
      | some r=>
       rw[hd,zd]at h;cases h;obtain⟨g,o,e⟩:=qu hd;obtain⟨bs,rfl,A⟩:=zqR e;obtain⟨h1,h2⟩:=hG.facts _ o;refine⟨.enter f (zf β args).toArray,w,by simp[callFunc,i,hn,k],?_⟩;refine(h2 w _ β (fun _ _ hx=>hx) b (zdM hG.facts hR A hargs)).mono fun x w' hx=>?_;obtain⟨rfl,d⟩:=hx
       exact⟨_,rfl,β,rfl,h1,hR.KI d,Ext.KI hR.bnd d⟩
     | some q=>
      rw[hq,zd]at h;cases h;obtain⟨g,o,e⟩:=qu hq;obtain⟨rin,rout,n,rfl,A,M⟩:=zqU e;have z:=hG.facts _ o;refine⟨.enter f (zf β args).toArray,w,by simp[callFunc,i,hn,k],?_⟩;refine(z β H w (fun _ _ hx=>hx) hR hG.at_ hG.tabs rfl M hargs).mono fun x w' hx=>?_;obtain⟨C,rfl,Q,O,N⟩:=hx;have A:H'=yq H rin rout n:=A
      exact⟨_,rfl,C,rfl,Q,by rw[A];exact O,by rw[A];exact N⟩
    | some q=>
     rw[hm,zd]at h;obtain⟨g,o,e⟩:=qu hm;obtain⟨h1,h2,h3⟩:=zqV e (hG.facts _ o);refine⟨.enter f (zf β args).toArray,w,by simp[callFunc,i,hn,k],?_⟩;refine(h3 w b).mono fun x w' hx=>?_;obtain⟨d,C,rfl,D,G⟩:=hx
     exact⟨_,rfl,zoV hR h h2 d D G⟩
   | some r=>
    rw[hc,zd]at h;cases h;obtain⟨g,o,e⟩:=qu hc;obtain⟨h1,h2,h3⟩:=zqZ e (hG.facts _ o);refine⟨.enter f (zf β args).toArray,w,by simp[callFunc,i,hn,k],?_⟩;refine(h3 w b).mono fun x w' hx=>?_;obtain⟨rfl,d⟩:=hx;exact⟨_,rfl,β,rfl,h2,hR.KI d,Ext.KI hR.bnd d⟩
omit hE in
theorem JR{β:Inj}{l m:List zb}(hl:WFs β l)(hm:WFs β m):WFs β (l++m):=by
 rw[zV]at *;intro v hv;rcases List.mem_append.1 hv with hv|hv
 .exact hl v hv
 .exact hm v hv
omit hE in
theorem yL(β:Inj)(l m:List zb):zf β (l++m)=zf β l++zf β m:=by simp[zx]
theorem zoN(hN:XH E.P)(b:zgR E){rec:Rec}(a:Wy E rec)(c:zm7 E rec){g:zb}{args:List zb}{H H':Heap}{v:zb}(h:zlE E rec g args H=some (v,H')){β:Inj}{w:World}
  (hR:Rel E.P β H w) (hG:Yv E β H) (hg:WF β g) (hargs:WFs β args) :
  Res E.P (do let d <- Deferred.ofValue (zc β g) (zf β args).toArray;invoke d.target d.args) w (RR E.P β H w v H'):=by
 cases g with
 | fn f l m=>
  have h:zm5 E rec f (zP l (zP args m)) H=some (v,H'):=h
  have hw:WFs β (zP l (zP args m)):=by
   rw[zT,zT];exact JR hg.1 (JR hargs hg.2)
  have h1:=zsq hE hN b a c h hR hG hw
  have e:(do let d <- Deferred.ofValue (zc β (.fn f l m)) (zf β args).toArray;invoke d.target d.args:Sem Next)=callFunc f (zf β (zP l (zP args m))).toArray:=by
   rw[zT,zT,yL,yL];show callFunc f (((zf β l).toArray++(zf β args).toArray)++(zf β m).toArray)=_;congr 1
   simp
  rw[e]
  exact h1
 | yieldf l=>
  have h1:=zoH hE a (show zlq rec l args H=some (v,H') from h) hR hG hargs hg
  have e:(do let d <- Deferred.ofValue (zc β (.yieldf l)) (zf β args).toArray;invoke d.target d.args:Sem Next)=Instr.yield (β.blk l) (zf β args).toArray:=by
   show Instr.yield (β.blk l) (#[]++(zf β args).toArray)=_;congr 1
   simp
  rw[e]
  exact h1
 | _=>cases h
theorem zqa(hN:XH E.P)(u:zgR E){rec:Rec}(a:Wy E rec)(y:zm7 E rec):UG E rec:=by
 intro β H w T o f v H' hR t i h;by_cases hc:∃c g,o.op = .call c/\c.callee = .value g
 .obtain⟨c,g,h1,h2⟩:=hc;obtain⟨dst,op,ty,pos,B,z⟩:=o;simp only at h h1 i;subst h1;obtain⟨ce,as,p⟩:=c;simp only at h2;subst h2;have h:(bnd (ev T g) fun v=>bnd (evs T as.toList) fun vs=>zlE E rec v vs H)=some (v,H'):=h;replace h:=ze h;obtain⟨gv,k,h⟩:=h;replace h:=ze h;obtain⟨vs,j,h⟩:=h;obtain⟨g1,A⟩:=i g (by simp[Op.operands,Call.operands]) gv k;obtain⟨D,C⟩:=zgp (ρ:=f) as.toList vs j (fun x hx v hv=>i x (by simp[Op.operands,Call.operands];exact .inr (by simpa using hx)) v hv);have:=zoN hE hN u a y h hR t A C;have e:as.map f=(zf β vs).toArray:=by rw[<- D,<- Array.toList_map]
  show Res E.P (do let d <- resolve f ⟨.value g,as,p⟩ ty;invoke d.target d.args) w _;simp only[resolve,e,g1];exact this
 .refine(zfs hE hR t.facts h i fun c hop=>?_).res
  cases hce:c.callee with
  | builtin b=>exact⟨b,rfl⟩
  | value g=>exact absurd ⟨c,g,hop,hce⟩ hc
  | invoke r n=>
   obtain⟨dst,op,ty,pos,B,z⟩:=o;simp only at h hop;subst hop;obtain⟨ce,as,p⟩:=c;simp only at hce;subst hce;cases h
end
end
section
variable[Unk]
theorem Vd{P:Program}{w:World}{l:Nat}{r:Loop}(h:w.heap[l]?=some (.loop r))(fn:FuncId)(tmps:Array Value)(a:Array Tmp)(assign body:Code) :
  (Instr.enterLoop fn tmps a assign body (some l)).run P w = .ok (w.heap.size,[]) (w.alloc (.loop { state:=.ready,pending:=none,fn,tmps,params:=a,assign,body,defers:=r.defers })):=by
 unfold Instr.enterLoop;simp only[Sem.run_bind,run_getLoop h,Result.andThen,Sem.run_pure,run_newObj];rfl
section
variable{E:Env}(hE:yg E)
include hE
theorem zrH{fr:Fr}{B:Nat}{T:Tr zb}{H:Heap}{k:Inj}{w:World}{b:Frame}{a:Act}(f:At E fr B T H k w b a)(m:zwn fr H=true)(g:Array Tmp)(as j:Code) :
  ∃(L:Nat) (mark:List Deferred) (D:World),(Instr.enterLoop b.fn a.tmps g as j b.roundOf).run E.P w = .ok (L,mark) D /\
   Rel E.P (k.put H.next (L,0,0)) ⟨H.blk.set H.next (.loop .ready none fr.fn fr.n T g as j),H.next+1⟩ D /\
   Ext k H w (k.put H.next (L,0,0)) ⟨H.blk.set H.next (.loop .ready none fr.fn fr.n T g as j),H.next+1⟩ D /\
   Marks B D (k.put H.next (L,0,0)) ⟨H.blk.set H.next (.loop .ready none fr.fn fr.n T g as j),H.next+1⟩ (mark++a.defers):=by
 have _:=hE;have A:=f.rel.fresh (Nat.le_refl H.next)
 cases o:fr.ro with
 | none=>
  have hb:b.roundOf=none:=by rw[f.frame.ro,o];rfl
  let u:=push w (.deferred (some []))
  have M:Rel E.P k H u:=f.rel.untrack fun c hc=>by
   obtain⟨i,G,y,z,v,rfl⟩:=hc;exact Wa w _ (f.rel.blk i G y z v).lt
  have C:Ext k H w k H u:=⟨fun _ _=>rfl,Nat.le_refl _,fun _ _ _=>rfl,fun _ b _ h=>⟨b,h⟩,fun _ _=>rfl,fun id x h e=>absurd (f.rel.bnd _ _ e) (by omega),fun c hc _=>Wa w _ hc,by simp[u,push],rfl,rfl,rfl⟩
  have t:u.heap.size=w.heap.size+1:=by simp[u,push]
  have d:=M.add (.loop .ready none fr.fn fr.n T g as j) (.loop { state:=.ready,pending:=none,fn:=b.fn,tmps:=a.tmps,params:=g,assign:=as,body:=j,defers:=w.heap.size }) 0
   ⟨a.tmps,w.heap.size,by rw[yo,f.frame.fn],f.tmp.mono (Inj.kX A)⟩
  rw[t]at d;obtain⟨U,Q⟩:=d;refine⟨w.heap.size+1,[Xh w.heap.size],_,?_,U,C.trans Q,?_⟩
  .rw[hb];exact run_enterLoop_outer b.fn a.tmps g as j
  .obtain⟨rs,h1,h2⟩:=f.marks.ext (C.trans Q);obtain⟨I,O,N⟩:=f.marks
   have J:rs=I:=by
    have inj:∀(x y:List Nat),x.map Xh=y.map Xh->x=y:=by
     intro x
     induction x with
     | nil=>intro y h;cases y with|nil=>rfl|cons _ _=>cases h
     | cons p x X=>
      intro y h
      cases y with
      | nil=>cases h
      | cons q y=>
       simp only[map_cons,List.cons.injEq]at h;have:p=q:=by have:=h.1;simp[Xh]at this;exact this
       rw[this,X y h.2]
    exact inj _ _ (h1 ▸ O ▸ rfl)
   subst J;refine⟨w.heap.size::rs,by rw[h1];rfl,?_,?_⟩
   .rw[nodup_cons];refine⟨fun hm=>?_,h2.nodup⟩;have:=(N.each _ hm).2.1;omega
   .intro r o;rcases List.mem_cons.1 o with rfl|o
    .refine⟨f.base,by show w.heap.size<(u.heap.push _).size;rw[Array.size_push,t];omega,?_,?_⟩
     .rintro⟨i,G,y,z,v,Y⟩
      by_cases hi:i=H.next
      .subst hi;rw[Inj.zL]at v;cases v;simp at Y
      .rw[Inj.qg _ _ hi]at v;have z:(H.blk.set H.next (.loop .ready none fr.fn fr.n T g as j)).get i=some G:=z;rw[Tr.zK,if_neg (fun e=>hi e.symm)]at z;have:=(f.rel.blk i G y z v).lt;omega
     .rw[Wa _ _ (by rw[t];omega)];exact yo _ _
    .exact h2.each r o
 | some l=>
  have hb:b.roundOf=some (k.blk l):=by rw[f.frame.ro,o];rfl
  have hl:=f.frame.mapped l o
  have K:∃q,H.lp l=some q:=by
   unfold zwn at m;rw[o,zd]at m
   cases hq:H.lp l with
   | none=>rw[hq]at m;cases m
   | some q=>exact⟨q,rfl⟩
  obtain⟨q,hq⟩:=K;obtain⟨_,r,h2,_⟩:=zeW f.rel hq hl
  have d:=f.rel.add (.loop .ready none fr.fn fr.n T g as j) (.loop { state:=.ready,pending:=none,fn:=b.fn,tmps:=a.tmps,params:=g,assign:=as,body:=j,defers:=r.defers }) 0
   ⟨a.tmps,r.defers,by rw[yo,f.frame.fn],f.tmp.mono (Inj.kX A)⟩
  refine⟨w.heap.size,[],_,?_,d.1,d.2,f.marks.ext d.2⟩;rw[hb];exact Vd h2 b.fn a.tmps g as j
theorem zih(hN : XH E.P){rec : Rec}(Y : Wy E rec) : zgV E rec := by
  intro fr f M as N T H p w b a k cs B it hit C;obtain rfl : it = .code (.rangeFunc f M as N) := by rcases hit with h|⟨d, h, _⟩; exact h; cases h
  show Out E.P fr B p H w b k cs _ (zcZ f M as N E rec fr T H);generalize g : zcZ f M as N E rec fr T H = res;by_cases i : res = .fail
  · rw[i]; trivial
  · unfold zcZ at g
    rw[zl] at g;split at g
    case isFalse => exact absurd g.symm i
    rename_i hro
    cases hv : ev T f with
    | none => rw[hv] at g; exact absurd g.symm i
    | some v =>
      rw[hv, zd] at g
      cases hq : zA0 v with
      | none => rw[hq] at g; exact absurd g.symm i
      | some q =>
        rw[hq, zd] at g;have hvq : v = .fn q.1 q.2.1 q.2.2 := by cases v <;> cases hq; rfl
        subst hvq
        cases hs : E.spec.get q.1 with
        | some s => rw[hs] at g; exact absurd g.symm i
        | none =>
          rw[hs, zm] at g;simp only[zY] at g;unfold zl8 at g
          cases hb : qj E rec q.1 (zP q.2.1 (zP [.yieldf H.next] q.2.2)) ⟨H.blk.set H.next (.loop .ready none fr.fn fr.n T M as N), Nat.succ H.next⟩ with
          | none => rw[hb] at g; exact absurd g.symm i
          | some r =>
            obtain⟨rv, H2⟩ := r;rw[hb, zd] at g;obtain⟨e1, e2⟩ := zgq C.tmp C.glob hv;obtain⟨L, mark, w1, he, Z, J, hM1⟩ := zrH hE C hro M as N;have o := J.le C.rel.bnd
            have hw1 : WFs (p.put H.next (L, 0, 0)) (zP q.2.1 (zP [.yieldf H.next] q.2.2)) := by
              rw[zT, zT];refine JR ((WFs.mono o _ e2.1).1) (JR ⟨by simp[WF, Inj.zL], trivial⟩ ((WFs.mono o _ e2.2).1))
            obtain⟨⟨fn, c, Q, hf2⟩, G⟩ := zdU hE Y hb Z (C.glob.ext C.rel.bnd J) hw1;have D : fn.name ≠ "runtime.NumGoroutine" := by simpa using hN q.1 fn Q
            have I : (zf (p.put H.next (L, 0, 0)) (zP q.2.1 (zP [.yieldf H.next] q.2.2))).toArray = ((zf p q.2.1).toArray ++ #[.func (.yield L) #[] #[]]) ++ (zf p q.2.2).toArray := by
              rw[zT, zT, yL, yL, (WFs.mono o _ e2.1).2, (WFs.mono o _ e2.2).2];simp[zf, zc, Inj.blk, Inj.zL]
            have hrs : (resolve a.eval (rangeCall f L) 0).run E.P w1 = .ok { target := .fn (.func q.1) (zf p q.2.2).toArray, args := (zf p q.2.1).toArray ++ #[.func (.yield L) #[] #[]] } w1 := by
              have em : (#[Operand.const (.func (.yield L) #[] #[])].map a.eval) = #[.func (.yield L) #[] #[]] := by simp[Act.eval]
              simp only[resolve, e1, zc, Deferred.ofValue, em, Sem.run_pure]
            have hiv : (invoke (.fn (.func q.1) (zf p q.2.2).toArray) ((zf p q.2.1).toArray ++ #[.func (.yield L) #[] #[]])).run E.P w1 =
                .ok (.enter q.1 (zf (p.put H.next (L, 0, 0)) (zP q.2.1 (zP [.yieldf H.next] q.2.2))).toArray) w1 := by
              rw[I];simp[invoke, callFunc, Q, D, hf2]
            have s1 := stepR_rangeFunc (P := E.P) (b := b) (a := a) (k := k) (cs := cs) (w := w) he hrs hiv;obtain⟨e, w2, fr2, ⟨x, rfl, β2, rfl, g1, g2, g3⟩, hs2, _, hlv⟩ := G (b.atR { a with defers := mark ++ a.defers } (.inRangeFunc L :: k) :: cs);have s3 := step_leave_returned (c := b.atR { a with defers := mark ++ a.defers } (.inRangeFunc L :: k)) (cs := cs) hlv;rw[finish_atR_inRangeFunc] at s3
            have u : Steps E.P (lone (b.atR a (.code (.rangeFunc f M as N) :: k)) cs w) (lone (b.atR { a with defers := mark ++ a.defers } (.endRangeFunc L :: k)) cs w2) :=
              .head s1 (Steps.trans hs2 (.one s3))
            have X := J.trans g3;have z := g3.le Z.bnd;have O : (β2 H.next).isSome := by rw[z H.next (L, 0, 0) (Inj.zL _ _ _)]; rfl
            have U : β2.blk H.next = L := by simp[Inj.blk, z H.next (L, 0, 0) (Inj.zL _ _ _)]
            unfold zhJ at g
            cases y : H2.lp H.next with
            | none => simp only[y, zm] at g; exact absurd g.symm i
            | some q2 =>
              simp only[y, zd] at g;rw[zl] at g;split at g
              · exact absurd g.symm i
              · rename_i t
                obtain⟨_, K, h2, h3, h4, _⟩ := zeW g2 y O
                have hst : K.state ≠ .busy := by
                  rw[h3];intro hq;rw[hq] at t;exact t rfl
                obtain⟨k1, k2⟩ := zce g2 y O h2 .exhausted K.pending;rw[h4] at k1 k2;have A := run_endLoop (P := E.P) h2 hst;rw[U] at A;have s4 := stepR_endRangeFunc (b := b) (a := { a with defers := mark ++ a.defers }) (k := k) (cs := cs) A
                have hw3 : w2.putObj (β2.blk H.next) (.loop { K with state := .exhausted, pending := q2.pend }) = w2.putObj L (.loop { K with state := .exhausted }) := by
                  rw[U, <- h4]
                rw[hw3] at k1 k2
                have l : UE E.P p H w fr B β2 (H2.J3 H.next q2 .exhausted q2.pend) (w2.putObj L (.loop { K with state := .exhausted })) T { a with defers := mark ++ a.defers } :=
                  ⟨k1, X.trans k2, C.tmp.mono ((X.trans k2).le C.rel.bnd), (hM1.ext g3).ext k2⟩
                have m := u.trans (.one s4);generalize w2.putObj L (.loop { K with state := .exhausted }) = W at m l;rw[h4] at m
                cases hp : q2.pend with
                | none =>
                  rw[hp, zm] at g;rw[<- g];rw[hp] at m l
                  exact⟨β2, _, _, l, m⟩
                | some j =>
                  rw[hp, zd] at g;rw[hp] at m l;cases j <;> first|exact absurd g.symm i|skip
                  case exit id =>
                    rw[<- g];exact⟨β2, _, _, k, l, rfl, m⟩
                  case ret =>
                    rw[<- g];exact⟨β2, _, _, k, l, m⟩
end
end
end Go.AEv
