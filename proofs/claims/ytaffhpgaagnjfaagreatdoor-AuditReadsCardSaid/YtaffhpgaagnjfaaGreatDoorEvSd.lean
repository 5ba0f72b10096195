/- Trails: EvSd. Conditions: each theorem's. -/
import Derived.Test.YtaffhpgaagnjfaaGreatDoorEvSc
import Derived.RangeFuncIn
import Derived.RangeFuncRecord
import Derived.Laws.Externs
import Derived.Lib.MakeNoZero
import Derived.Lib.Bytealg
set_option linter.all false
open List Option Array Go.World
namespace Go.AEv
variable{H H':Heap}{P:Ef}{T:M G}{arr:Eh}{as:List G}{f:Eu}{g β β':Inj}{l:List (Nat×Nat×Nat)}{n nx:Nat}{r:jr}{v:G}{w w':Ea}{x:Ej}
section
variable[Unk]
def RR(P:Ef)(β:Inj)(H:Heap)(w:Ea)(v:G)(H':Heap)(x:Ei)(w':Ea):Prop:=
 ∃β',x=J β' v/\WF β' v/\Rel P β' H' w'/\Ext β H w β' H' w'
def Res(P:Ef)(m:Sem Next)(w:Ea)(R:Value->World->Prop):Prop:=
 ∃nx w1,m.run P w = .ok nx w1 /\
  match nx with
  | .value v=>R v w1
  | .skip=>R undef w1
  | .enter f args=>Calls P f args w1 λe w2=>∃v,e = .returned v/\R v w2
  | .round l f tmps as bo=>∀c cs,∃v w2,R v w2/\Steps P (lone (Frame.round l f tmps as bo .normal) (c::cs) w1) (lone (c.finish v) cs w2)
  | _=>False
def pQ.res{m:Sem Next}(h:pQ P g H w m v H'):Res P m w (RR P g H w v H'):=by
 obtain⟨β',w',nx,h1,h2,h3,b,a⟩:=h;refine⟨nx,w',h1,?_⟩;rcases h2 with rfl|⟨rfl,rfl⟩
 .exact⟨β',rfl,h3,b,a⟩
 .exact⟨β',Oc,h3,b,a⟩
def Res.steps{P : Program}{b : Frame}{a : Act}{ops : Array Oper}{i : Nat}{rest : List Nat}{k : List Item}{cs : List Frame}{w : World}{o : Oper}{R : Value -> World -> Prop}
    (ho : ops[i]?=some o) (hw : Region.wanted o (yielded ops a.tmps) = true) (hd : ∀c, o.op ≠ .defer c) (h : Res P (execOp a.eval o) w R) :
    ∃v w', R v w' /\ Steps P (lone (b.atR a (.inRegion ops (i :: rest) :: k)) cs w) (lone (b.atR (a.put o.dst v) (.inRegion ops rest :: k)) cs w') := by
  obtain⟨nx, m, h1, h2⟩ := h;have j := stepGR_op (P := P) (b := b) (k := k) (cs := cs) (w := w) (rest := rest) ho hw;rw[Oper.semAt_eq _ _ _ hd] at j
  have g : ∀v, (b.atR a (.inRegion ops (i :: rest) :: k)).finish v = b.atR (a.put o.dst v) (.inRegion ops rest :: k) := by
    intro v; rw[Frame.finish_atR, ho]; rfl
  cases nx with
  | value v =>
    refine⟨v, m, h2, .one (step_lone_go ?_)⟩
    rw[j, <- g]; simp[stepG.apply, h1]
  | skip =>
    refine⟨undef, m, h2, .one (step_lone_go ?_)⟩
    rw[j, <- g]; simp[stepG.apply, h1]
  | enter f args =>
    obtain⟨e, w2, fr, ⟨v, rfl, hR⟩, hs, n, hl⟩ := h2 (b.atR a (.inRegion ops (i :: rest) :: k) :: cs)
    have d : step P (lone (b.atR a (.inRegion ops (i :: rest) :: k)) cs w) =
        .next (lone (Frame.enter P f args .normal) (b.atR a (.inRegion ops (i :: rest) :: k) :: cs) m) :=
      step_lone_go (by rw[j]; simp[stepG.apply, h1, Frame.atR])
    refine⟨v, w2, hR, .head d (Steps.trans hs ?_)⟩;rw[<- g]
    exact .one (step_leave_returned hl)
  | round l f tmps as p =>
    obtain⟨v, w2, hR, hs⟩ := h2 (b.atR a (.inRegion ops (i :: rest) :: k)) cs
    have d : step P (lone (b.atR a (.inRegion ops (i :: rest) :: k)) cs w) =
        .next (lone (Frame.round l f tmps as p .normal) (b.atR a (.inRegion ops (i :: rest) :: k) :: cs) m) :=
      step_lone_go (by rw[j]; simp[stepG.apply, h1, Frame.atR])
    refine⟨v, w2, hR, .head d ?_⟩;rw[<- g]
    exact hs
  | _ => exact h2.elim
def yH.at_(h:yH g n T arr)(i:Nat)(hi:cA (tv T i)=false):arr.getD i undef=J g (tv T i):=((h.tmp i).known hi).2
def gm{t:Nat}(h:C8 t T=some v):tv T t=v/\cA v=false:=by
 unfold C8 at h;unfold tv
 cases a:T.get t with
 | none=>rw[a]at h;cases h;exact⟨rfl,rfl⟩
 | some u=>
  rw[a,ze,zo]at h;split at h
  .cases h
  .rename_i hn;cases h;exact⟨rfl,by simpa using hn⟩
def vh(T:M G)(d:Nat)(v:G)(i:Nat):tv (T.set d v) i=if d=i then v else tv T i:=by
 unfold tv;rw[M.zN];split<;>rfl
def yH.set(h:yH g n T arr){d:Nat}(hd:d<n)(hv:WF g v):yH g n (T.set d v) (arr.setIfInBounds d (J g v)) where
 size:=by simpa using h.size
 tmp:=λi=>by
  rw[vh];have hs:=h.size;by_cases hi:d=i
  .subst hi;rw[Y rfl];refine .inr ⟨hv,?_⟩;simp[getD_eq_getD_getElem?,hs,hd]
  .rw[O hi];have e:(arr.setIfInBounds d (J g v)).getD i undef=arr.getD i undef:=by simp[getD_eq_getD_getElem?,hi]
   rw[e];exact h.tmp i
def oN{E:Env}{b:Inj}{a:Act}(h:yH b n T a.tmps)(i:YE E b H){x:Ev}(hv:ev T x=some v):a.eval x=J b v/\WF b v:=by
 cases x with
 | tmp t=>
  obtain⟨e,hn⟩:=gm (t:=t) hv;obtain⟨g1,d⟩:=(h.tmp t).known (by rw[e];exact hn);rw[e]at g1 d
  exact⟨d,g1⟩
 | const c=>exact⟨((YN b 5000).1 c v hv).1.symm,((YN b 5000).1 c v hv).2⟩
 | global g=>
  have hv:ifB (Nat.blt g 60) (some (G.ptr g 0)) none=some v:=hv;replace hv:=zh hv;obtain⟨h1,hv⟩:=hv;rw[zW,Lk]at h1;cases hv;have hb:=i.at_ g I;rw[Unk.glob g h1]at hb;refine⟨?_,by simp[WF,hb]⟩
  simp[Act.eval,J,Inj.addr,Inj.blk,Inj.sh,hb]
 | func f=>
  cases hv;exact⟨rfl,trivial,trivial⟩
def sK{E:Env}{a:Act}(h:yH g n T a.tmps)(b:YE E g H)(l:Array Operand):WS T g a.eval l:=
 λ_ _ _ hv=>oN h b hv
def cG{d:Tmp}(h:Z (T.get d) false UI=false):cA (tv T d)=false/\Z (T.get d) false Yd=false:=by
 unfold tv
 cases a:T.get d with
 | none=>exact⟨rfl,rfl⟩
 | some v=>
  rw[a,ze]at h;unfold UI at h;rw[zo]at h;split at h
  .cases h
  .rename_i hn;exact⟨by simpa using hn,h⟩
def xQ(h:yH g n T arr)(d:Tmp)(want:Bool)(hs:Z (T.get d) false UI=false) :
  UU T d want=((match arr[d]? with|some (.bool b)=>some b|_=>none)==some want):=by
 obtain⟨hn,hs⟩:=cG hs;have ha:=h.at_ d hn;rw[getD_eq_getD_getElem?]at ha;unfold UU
 cases a:T.get d with
 | none=>
  rw[show tv T d=jo by unfold tv;rw[a];rfl]at ha;rw[zn]
  cases he:arr[d]? with
  | none=>rfl
  | some x=>
   rw[he]at ha;have:x=undef:=by simpa using ha
   subst this
   rfl
 | some v=>
  rw[show tv T d=v by unfold tv;rw[a];rfl]at ha;rw[ze]
  cases hb:asBool v with
  | some b=>
   obtain rfl:=QF hb;rw[ze]
   have:arr[d]?=some (.bool b):=by
    cases he:arr[d]? with
    | none=>rw[he]at ha;simp[J,undef]at ha
    | some x=>rw[he]at ha;simp[J]at ha;rw[ha]
   rw[this,XJ]
   cases b<;>cases want<;>rfl
  | none=>
   rw[zn]
   cases he:arr[d]? with
   | none=>rfl
   | some x=>
    rw[he]at ha;have ha:x=J g v:=by simpa using ha
    subst ha;cases v<;>first|rfl|(cases hb;done)|(rename_i i;rw[a,ze]at hs;cases hs;done)
noncomputable def ZN(ops:Er)(T:M G)(o:Oper):Bool:=match o.guard with|none=>true|some g=>KM ops T g
def DX{a:Inj}(h:yH a n T arr)(ops:Ep)(o:Oper)(hs:∀g,o.guard=some g->np ops.toList T g=false):Region.wanted o (yielded ops arr)=ZN ops.toList T o:=by
 unfold Region.wanted ZN
 cases c:o.guard with
 | none=>rfl
 | some g=>
  obtain⟨j,want⟩:=g;simp only[KM,yY];unfold yielded;rw[LV]
  cases b:ops[j]? with
  | none=>rfl
  | some q=>
   simp only[bind_some,ze]
   cases hq:q.dst with
   | none=>rfl
   | some d=>
    simp only[bind_some,ze];refine(xQ h d want ?_).symm;have h1:=hs _ c;simp only[np,yY]at h1;rw[LV,b,ze,hq,ze]at h1;exact h1
def pE{dst:Option Tmp}{f:M G->jr}(h:zbD n dst T v f=r)(a:r≠.fail) :
  (dst=none/\f T=r)\/∃d,dst=some d/\d<n/\f (T.set d v)=r:=by
 cases dst with
 | none=>exact .inl ⟨rfl,h⟩
 | some d=>
  right;have h:ifB (Nat.blt d n) (f (T.set d v)) .fail=r:=h;rw[zo,zW]at h;split at h
  .rename_i hd;exact⟨d,rfl,by simpa using hd,h⟩
  .exact Ld h.symm a
def yH.put{a:Act}(h:yH g n T a.tmps){dst:Option Tmp}(hv:WF g v){f:M G->jr}(c:r≠.fail)(he:zbD n dst T v f=r) :
  ∃b,f b=r/\yH g n b (a.put dst (J g v)).tmps:=by
 rcases pE he c with⟨rfl,h1⟩|⟨d,rfl,hd,h1⟩
 .exact⟨T,h1,h⟩
 .exact⟨_,h1,h.set hd hv⟩
def put_defers(a:Act)(dst:Option Tmp)(v:Ei):(a.put dst v).defers=a.defers:=by cases dst<;>rfl
end
def MO{a b:Option G}(h:oeq a b=true):a=b:=by
 cases a with
 | none=>cases b with
  | none=>rfl
  | some y=>cases h
 | some x=>cases b with
  | none=>cases h
  | some y=>rw[zV x y h]
def ng:∀(t s:M G),Fc t s=true->t=s:=by
 intro t
 induction t with
 | nil=>intro s h;cases s with
  | nil=>rfl
  | node l v r=>cases h
 | node l v r b a=>
  intro s h
  cases s with
  | nil=>cases h
  | node l' c r'=>
   have h:L (oeq v c) (L (Fc l l') (Fc r r'))=true:=h;simp only[zl,Le]at h;rw[MO h.1,b l' h.2.1,a r' h.2.2]
def Gx:∀ {a b:ag},xp a b=true->a=b:=by
 intro a
 induction a with
 | nil=>intro b h;cases b with
  | nil=>rfl
  | cons _ _=>cases h
 | cons e a c=>
  intro b h
  cases b with
  | nil=>cases h
  | cons d b=>
   have h:L (L (qF e.1 d.1) (L (qF e.2.1 d.2.1) (Nat.beq e.2.2 d.2.2))) (xp a b)=true:=h;simp only[zl,Le,zA,Ll]at h;obtain⟨⟨h1,h2,h3⟩,f⟩:=h;have h1:=zV _ _ h1;rw[c f];obtain⟨j,i,g⟩:=e;obtain⟨d1,d2,d3⟩:=d;simp only at h1 h2 h3;rw[h1,zV _ _ h2,h3]
def QZ{a b:X}(h:Q0 a b=true):a=b:=by
 unfold Q0 at h;split at h
 .simp only[zl,Le,zA,Ll]at h;obtain⟨h1,h2,h3⟩:=h;rw[h1,h2,ng _ _ h3]
 .simp only[zl,Le,zA,Ll]at h;rw[h.1,h.2.1,h.2.2]
 .simp only[zl,Le,zA,Ll]at h;rw[Gx h.1,h.2]
 .simp only[zl,Le,zA,Ll]at h;rw[h.1,zV _ _ h.2]
 .simp only[zl,Le,zA,Ll]at h;rw[h.1,zV _ _ h.2]
 .rw[ng _ _ h]
 .cases h
def bZ:∀(t:M G) (q:Pa),Yq q (XY t)=Z (Yq q t) none λ_=>some Sp:=by
 intro t
 induction t with
 | nil=>intro q;rw[JK];exact JK q
 | node l v r b a=>
  intro q;have e:XY (.node l v r) = .node (XY l) (Z v none λ_=>some Sp) (XY r):=rfl;rw[e]
  cases q with
  | e=>rfl
  | o q=>rw[Q5,Q5];exact b q
  | i q=>rw[Q6,Q6];exact a q
def vS:∀(t s:M G) (q:Pa),Yq q (ZZ t s)=fI (Yq q t) (Yq q s):=by
 intro t
 induction t with
 | nil=>
  intro s q;show Yq q (XY s)=_;rw[bZ,JK];unfold fI
  cases Yq q s<;>rfl
 | node l v r b a=>
  intro s q
  cases s with
  | nil=>
   show Yq q (XY (.node l v r))=_;rw[bZ,JK];unfold fI
   cases Yq q (.node l v r)<;>rfl
  | node l' c r'=>
   have e:ZZ (.node l v r) (.node l' c r') = .node (ZZ l l') (fI v c) (ZZ r r'):=rfl;rw[e]
   cases q with
   | e=>rfl
   | o q=>rw[Q5,Q5,Q5];exact b l' q
   | i q=>rw[Q6,Q6,Q6];exact a r' q
def Gq(t s:M G)(i:Nat):(ZZ t s).get i=fI (t.get i) (s.get i):=vS t s (path i)
def Tb{a b:Option X}(h:zdB a b=true):a=b:=by
 cases a with
 | none=>cases b with
  | none=>rfl
  | some y=>cases h
 | some x=>cases b with
  | none=>cases h
  | some y=>rw[QZ (a:=x) (b:=y) h]
def TX:∀(t s:M X),TY t s=true->t=s:=by
 intro t
 induction t with
 | nil=>intro s h;cases s with
  | nil=>rfl
  | node l v r=>cases h
 | node l v r b a=>
  intro s h
  cases s with
  | nil=>cases h
  | node l' c r'=>
   have h:L (zdB v c) (L (TY l l') (TY r r'))=true:=h;simp only[zl,Le]at h;rw[Tb h.1,b l' h.2.1,a r' h.2.2]
def oH(h:heq H H'=true):H=H':=by
 unfold heq at h;simp only[zl,Le,zA,Ll]at h;obtain⟨b,n⟩:=H;obtain⟨b',a⟩:=H';rw[show n=a from h.1,TX b b' h.2]
section
variable[Unk]
def BC(t s:M G)(i:Nat):cA (tv (ZZ t s) i)=true\/(tv (ZZ t s) i=tv t i/\tv (ZZ t s) i=tv s i):=by
 unfold tv;rw[Gq];unfold fI;rw[zo];split
 .rename_i h;have:=MO h;exact .inr ⟨rfl,by rw[this]⟩
 .exact .inl rfl
def yH.tC(h:yH g n T arr)(S:M G):yH g n (ZZ T S) arr where
 size:=h.size
 tmp:=λi=>by
  rcases BC T S i with e|⟨e,_⟩
  .exact .inl e
  .rw[e];exact h.tmp i
def yH.tB(h:yH g n T arr)(S:M G):yH g n (ZZ S T) arr where
 size:=h.size
 tmp:=λi=>by
  rcases BC S T i with e|⟨_,e⟩
  .exact .inl e
  .rw[e];exact h.tmp i
end
section
variable[Unk]
def Ext.range(h:Ext g H w β' H' w'){c:Nat}(d:bL β' H' c):w.heap.size<=c\/bL g H c:=by
 obtain⟨i,b,y,e,a,rfl⟩:=d;by_cases hi:i<H.next
 .obtain⟨b',f⟩:=h.gone i b hi e;exact .inr ⟨i,b',y,f,by rw[<- h.old i hi];exact a,rfl⟩
 .exact(h.new i y I a).imp id Range.all
def Ext.Ml(h:Ext g H w β' H' w'){c:Nat}(d:Range β' H' c):w.heap.size<=c\/Range g H c:=by
 obtain⟨i,b,y,f,e,a,rfl⟩:=d;by_cases hi:i<H.next
 .obtain⟨b',j⟩:=h.gone i b hi e;exact .inr ⟨i,b',y,f,j,by rw[<- h.old i hi];exact a,rfl⟩
 .exact h.new i y I a
structure zbV(fr:Fr)(b:Frame)(β:Inj):Prop where
 fn:b.fn=fr.fn
 kind:b.kind = .normal
 ro:b.roundOf=fr.ro.map β.blk
 mapped:∀l,fr.ro=some l->(β l).isSome
def zbV.mono{fr:Fr}{b:Frame}(h:zbV fr b β)(l:β.le β'):zbV fr b β' where
 fn:=h.fn
 kind:=h.kind
 ro:=by
  rw[h.ro]
  cases a:fr.ro with
  | none=>rfl
  | some x=>simp[Inj.blk,l.some (h.mapped x a)]
 mapped:=λx hx=>by rw[l.some (h.mapped x hx)];exact h.mapped x hx
def Xq(r:Nat):Deferred:={ target:=.collected r,args:=#[] }
structure ae(B:Nat)(w:Ea)(β:Inj)(H:Heap)(rs:Eb):Prop where
 nodup:rs.Nodup
 each:∀r∈rs,B<=r/\r<w.heap.size/\¬bL β H r/\w.heap[r]?=some (.deferred (some []))
def Marks(B:Nat)(w:Ea)(β:Inj)(H:Heap)(D:List Deferred):Prop:=∃rs,D=rs.map Xq/\ae B w β H rs
def ae.ext{B:Nat}{rs:Eb}(h:ae B w g H rs)(e:Ext g H w β' H' w'):ae B w' β' H' rs where
 nodup:=h.nodup
 each:=λr c=>by
  obtain⟨f,b,a,d⟩:=h.each r c;refine⟨f,LK b e.size,λhx=>?_,by rw[e.frame r b λq=>a q.all];exact d⟩;rcases e.range hx with h1|h1
  .omega
  .exact a h1
def Marks.ext{B:Nat}{D:List Deferred}(h:Marks B w g H D)(e:Ext g H w β' H' w'):Marks B w' β' H' D:=by
 obtain⟨rs,rfl,a⟩:=h;exact⟨rs,rfl,a.ext e⟩
structure U9(P:Ef)(β:Inj)(H:Heap)(w:Ea)(fr:Fr)(B:Nat)(β':Inj)(H':Heap)(w':Ea)(T':M G)(a':Act):Prop where
 rel:Rel P β' H' w'
 ext:Ext β H w β' H' w'
 tmp:yH β' fr.n T' a'.tmps
 marks:Marks B w' β' H' a'.defers
def U9.before{P : Program}{a β1 β' : Inj}{H H1 H' : Heap}{w b w' : World}{fr : Fr}{B : Nat}{d : M G}{c : Act}(e : Ext a H w β1 H1 b)(h : U9 P β1 H1 b fr B β' H' w' d c) :
    U9 P a H w fr B β' H' w' d c := ⟨h.rel, e.trans h.ext, h.tmp, h.marks⟩
def Out(P:Ef)(fr:Fr)(B:Nat)(β:Inj)(H:Heap)(w:Ea)(b:Frame)(k:List Item)(cs:List Frame)(m:Machine):jr->Prop
 | .fail=>True
 | .nrm T' H'=>∃β' w' a',U9 P β H w fr B β' H' w' T' a'/\Steps P m (lone (b.atR a' k) cs w')
 | .ex id T' H'=>∃β' w' a' k1,U9 P β H w fr B β' H' w' T' a'/\exitTo id k1=exitTo id k/\Steps P m (lone (b.atR a' (.code (.exit id)::k1)) cs w')
 | .ret T' H'=>∃β' w' a' k1,U9 P β H w fr B β' H' w' T' a'/\Steps P m (lone (b.atR a' (.code .ret::k1)) cs w')
def Out.steps{fr:Fr}{B:Nat}{b:Frame}{k:List Item}{cs:List Frame}{m m1:Machine}(s:Steps P m m1)(h:Out P fr B g H w b k cs m1 r) :
  Out P fr B g H w b k cs m r:=by
 cases r with
 | fail=>trivial
 | nrm T H=>obtain⟨β',w',a,h1,h2⟩:=h;exact⟨β',w',a,h1,s.trans h2⟩
 | ex id T H=>obtain⟨β',w',a,c,h1,d,h2⟩:=h;exact⟨β',w',a,c,h1,d,s.trans h2⟩
 | ret T H=>obtain⟨β',w',a,c,h1,h2⟩:=h;exact⟨β',w',a,c,h1,s.trans h2⟩
def Out.before{fr:Fr}{B:Nat}{β1:Inj}{H1:Heap}{u:Ea}{b:Frame}{k:List Item}{cs:List Frame}{m:Machine}(e:Ext g H w β1 H1 u)
  (h:Out P fr B β1 H1 u b k cs m r):Out P fr B g H w b k cs m r:=by
 cases r with
 | fail=>trivial
 | nrm T H=>obtain⟨β',w',a,h1,h2⟩:=h;exact⟨β',w',a,h1.before e,h2⟩
 | ex id T H=>obtain⟨β',w',a,c,h1,h2⟩:=h;exact⟨β',w',a,c,h1.before e,h2⟩
 | ret T H=>obtain⟨β',w',a,c,h1,h2⟩:=h;exact⟨β',w',a,c,h1.before e,h2⟩
structure N(E:Env)(fr:Fr)(B:Nat)(T:M G)(H:Heap)(β:Inj)(w:Ea)(b:Frame)(a:Act):Prop where
 rel:Rel E.P β H w
 glob:YE E β H
 frame:zbV fr b β
 tmp:yH β fr.n T a.tmps
 marks:Marks B w β H a.defers
 base:B<=w.heap.size
def U9.at_{E:Env}{fr:Fr}{B:Nat}{d:M G}{b:Frame}{a c:Act}(h:N E fr B T H g w b a)(p:U9 E.P g H w fr B β' H' w' d c) :
  N E fr B d H' β' w' b c:=
 ⟨p.rel,h.glob.ext h.rel.bnd p.ext,h.frame.mono (p.ext.le h.rel.bnd),p.tmp,p.marks,Lj h.base p.ext.size⟩
def N.post{E:Env}{fr:Fr}{B:Nat}{b:Frame}{a:Act}(h:N E fr B T H g w b a):U9 E.P g H w fr B g H w T a:=
 ⟨h.rel,.refl _ _ _ h.rel.bnd,h.tmp,h.marks⟩
def ab(E:Env)(rec:Rec):Prop:=
 ∀(β:Inj) (H:Heap) (w:Ea) (T:M G) (o:Oper) (ρ:Operand->Value) (v:G) (H':Heap),Rel E.P β H w->YE E β H->WS T β ρ o.op.operands->aop o.op E rec T H=some (v,H') ->
  Res E.P (execOp ρ o) w (RR E.P β H w v H')
def bG{E:Env}{rec:Rec}{o:Op}{r:G×Heap}(h:aop o E rec T H=some r):∀c,o≠.defer c:=by
 intro c e;subst e;cases h
section
variable{E:Env}
def uR{rec:Rec}(f:ab E rec){fr:Fr}{B:Nat}{b:Frame}{a:Act}(c:N E fr B T H g w b a)
  {ops:Ep}{i:Nat}{rest:Eb}{k:List Item}{cs:List Frame}{o:Oper} (ho:ops[i]?=some o) (hw:Region.wanted o (yielded ops a.tmps)=true)
  {K:pR}{r:jr} (he:m8 E rec fr.n o T H K=r) (hr:r≠.fail) :
  ∃d H' β' w' e,K d H'=r/\U9 E.P g H w fr B β' H' w' d e/\Steps E.P (lone (b.atR a (.inRegion ops (i::rest)::k)) cs w) (lone (b.atR e (.inRegion ops rest::k)) cs w'):=by
 unfold m8 at he
 cases hx:aop o.op E rec T H with
 | none=>rw[hx]at he;exact Ld he.symm hr
 | some p=>
  rw[hx,ze]at he;obtain⟨v,H'⟩:=p;obtain⟨x,w',⟨β',rfl,h1,h2,h3⟩,hs⟩:=(f g H w T o a.eval v H' c.rel c.glob (sK c.tmp c.glob _) hx).steps (b:=b) (rest:=rest) (k:=k) (cs:=cs) ho hw (bG hx);obtain⟨d,j,h⟩:=yH.put (c.tmp.mono (h3.le c.rel.bnd)) h1 hr he;exact⟨d,H',β',w',_,j,⟨h2,h3,h,by rw[put_defers];exact c.marks.ext h3⟩,hs⟩
def zbJ{rec:Rec}(j:ab E rec){fr:Fr}{B:Nat}{h:Inj}{b:Frame}{a:Act}(c:N E fr B T H h w b a)
  {ops:Ep}{i:Nat}{rest:Eb}{k:List Item}{cs:List Frame}{o:Oper} (ho:ops[i]?=some o)
  {K:pR}{r:jr} (he:cY E rec fr.n ops.toList o K T H=r) (hr:r≠.fail) :
  ∃f H' β' w' m,K f H'=r/\U9 E.P h H w fr B β' H' w' f m/\Steps E.P (lone (b.atR a (.inRegion ops (i::rest)::k)) cs w) (lone (b.atR m (.inRegion ops rest::k)) cs w'):=by
 have e:∀g,o.guard=some g->np ops.toList T g=false:=by
  intro g d;unfold cY at he;rw[d,ze,zo]at he;split at he
  .exact Ld he.symm hr
  .rename_i hs;simpa using hs
 have hq:=DX c.tmp ops o e;unfold ZN at hq;unfold cY at he
 cases d:o.guard with
 | none=>
  rw[d]at he hq
  exact uR j c ho hq he hr
 | some g=>
  rw[d,ze,zo,O (by rw[e g d];decide),zo]at he;rw[d]at hq;split at he
  .rename_i hw;exact uR j c ho (hq.trans hw) he hr
  .rename_i hw;have hw:Region.wanted o (yielded ops a.tmps)=false:=by rw[hq];simpa using hw
   have hs:=stepR_op_skip (P:=E.P) (b:=b) (a:=a) (k:=k) (cs:=cs) (w:=w) (ops:=ops) (i:=i) (rest:=rest) (by rw[ho];simpa using hw);rw[ho]at hs;simp only[bind_some]at hs;obtain⟨f,p,l⟩:=yH.put c.tmp (v:=jo) Oc hr he;rw[XF]at l;exact⟨f,H,h,w,_,p,⟨c.rel,.refl _ _ _ c.rel.bnd,l,by rw[put_defers];exact c.marks⟩,.one hs⟩
def zbH{rec:Rec}(p:ab E rec){fr:Fr}{B:Nat}{b:Frame}{ops:Ep}{k:List Item}{cs:List Frame}:∀(m i:Nat) (T:M G) (H:Heap) (c:Inj) (w:Ea) (a:Act),
  N E fr B T H c w b a->i+m=ops.size ->
  Out E.P fr B c H w b k cs (lone (b.atR a (.inRegion ops (List.range' i m)::k)) cs w) (zbI E rec fr.n ops.toList (ops.toList.drop i) T H):=by
 intro m
 induction m with
 | zero=>
  intro i T H c w a d e;have hd:ops.toList.drop i=[]:=drop_eq_nil_of_le (by simp;omega);rw[hd]
  exact⟨c,w,a,d.post,.one stepR_region_end⟩
 | succ m h=>
  intro i T H c w a d e;have hi:i<ops.toList.length:=by simp;omega
  rw[drop_eq_getElem_cons hi,List.range'_succ];have l:ops[i]?=some ops.toList[i]:=by rw[<- LV];exact Ly hi
  generalize j:zbI E rec fr.n ops.toList (ops.toList[i]::ops.toList.drop (i+1)) T H=r;have he:cY E rec fr.n ops.toList ops.toList[i] (zbI E rec fr.n ops.toList (ops.toList.drop (i+1))) T H=r:=j;by_cases f:r = .fail
  .rw[f];trivial
  .obtain⟨x,H',β',w',v,u,g,t⟩:=zbJ p d (rest:=List.range' (i+1) m) (k:=k) (cs:=cs) l he f;have:=h (i+1) x H' β' w' v (g.at_ d) I;rw[u]at this;exact(this.before g.ext).steps t
def zeN(it:Item)(c:Code):Prop:=it = .code c\/∃d,c = .loop d/\it = .inLoop d
def pW(E:Env)(fr:Fr)(c:Code)(run:M G->Heap->jr):Prop:=
 ∀(T:M G) (H:Heap) (β:Inj) (w:Ea) (b:Frame) (a:Act) (k:List Item) (cs:List Frame) (B:Nat) (it:Item),zeN it c->N E fr B T H β w b a ->
  Out E.P fr B β H w b k cs (lone (b.atR a (it::k)) cs w) (run T H)
def WR(E:Env)(rec:Rec):Prop:=∀fr c,pW E fr c (rec fr c)
def Bq(E:Env)(rec:Rec):Prop:=∀fr id ops,pW E fr (.region id ops true) (λT H=>uS E rec fr.n ops.toList T H)
def pT(E:Env)(rec:Rec):Prop:=∀fr f ps as bo,pW E fr (.rangeFunc f ps as bo) (λT H=>fH f ps as bo E rec fr T H)
def Out.tC{fr:Fr}{B:Nat}{b:Frame}{k:List Item}{cs:List Frame}{m:Machine}(h:Out P fr B g H w b k cs m r)(s:jr):Out P fr B g H w b k cs m (CQ r s):=by
 cases r<;>cases s<;>try trivial
 .rename_i d H1 c f;show Out P fr B g H w b k cs m (ifB (heq H1 f) (.nrm (ZZ d c) H1) .fail);rw[zo];split
  .obtain⟨β',w',a,p,s⟩:=h;exact⟨β',w',a,⟨p.rel,p.ext,p.tmp.tC _,p.marks⟩,s⟩
  .trivial
 .rename_i i d H1 j c f;show Out P fr B g H w b k cs m (ifB (L (Nat.beq i j) (heq H1 f)) (.ex i (ZZ d c) H1) .fail);rw[zo];split
  .obtain⟨β',w',a,l,p,e,s⟩:=h;exact⟨β',w',a,l,⟨p.rel,p.ext,p.tmp.tC _,p.marks⟩,e,s⟩
  .trivial
 .rename_i d H1 c f;show Out P fr B g H w b k cs m (ifB (heq H1 f) (.ret (ZZ d c) H1) .fail);rw[zo];split
  .obtain⟨β',w',a,l,p,s⟩:=h;exact⟨β',w',a,l,⟨p.rel,p.ext,p.tmp.tC _,p.marks⟩,s⟩
  .trivial
def Out.tB{fr:Fr}{B:Nat}{b:Frame}{k:List Item}{cs:List Frame}{m:Machine}(h:Out P fr B g H w b k cs m r)(s:jr):Out P fr B g H w b k cs m (CQ s r):=by
 cases s<;>cases r<;>try trivial
 .rename_i d H1 c f;show Out P fr B g H w b k cs m (ifB (heq H1 f) (.nrm (ZZ d c) H1) .fail);rw[zo];split
  .rename_i hh;obtain rfl:=oH hh;obtain⟨β',w',a,p,s⟩:=h;exact⟨β',w',a,⟨p.rel,p.ext,p.tmp.tB _,p.marks⟩,s⟩
  .trivial
 .rename_i i d H1 j c f;show Out P fr B g H w b k cs m (ifB (L (Nat.beq i j) (heq H1 f)) (.ex i (ZZ d c) H1) .fail);rw[zo];split
  .rename_i hh;rw[zl,Le,zA,Ll]at hh;obtain⟨rfl,hh⟩:=hh;obtain rfl:=oH hh;obtain⟨β',w',a,l,p,e,s⟩:=h;exact⟨β',w',a,l,⟨p.rel,p.ext,p.tmp.tB _,p.marks⟩,e,s⟩
  .trivial
 .rename_i d H1 c f;show Out P fr B g H w b k cs m (ifB (heq H1 f) (.ret (ZZ d c) H1) .fail);rw[zo];split
  .rename_i hh;obtain rfl:=oH hh;obtain⟨β',w',a,l,p,s⟩:=h;exact⟨β',w',a,l,⟨p.rel,p.ext,p.tmp.tB _,p.marks⟩,s⟩
  .trivial
def eH{P:Ef}{fr:Fr}{B:Nat}{c:Inj}{H:Heap}{w:Ea}{b:Frame}{k:List Item}{cs:List Frame}{m:Machine}{run:List Fact->jr}:∀(l:List (List Fact)) {f:List Fact},f∈l ->
  Out P fr B c H w b k cs m (run f)->Out P fr B c H w b k cs m (W4 run l)
 | [],_,a,_=>by cases a
 | g::l,f,a,h=>by
  show Out P fr B c H w b k cs m (lC l (run g) λ_ _=>CQ (run g) (W4 run l))
  cases l with
  | nil=>
   rw[Lu]at a;subst a
   exact h
  | cons x l=>
   rw[ZY];rcases Lf.1 a with rfl|a
   .exact h.tC _
   .exact(eH (x::l) a h).tB _
def Bu(E:Env):Prop:=∀(fr:Fr) (x:Code) (l:List (List Fact)) (T:M G) (H:Heap) (β:Inj) (w:Ea) (b:Frame) (a:Act) (k:List Item) (cs:List Frame) (B:Nat),WM E fr.fn T=some l->N E fr B T H β w b a ->
 ∃f∈l,Out E.P fr B β H w b k cs (lone (b.atR a (.code x::k)) cs w) (Jd x (E.plus f) Z1 fr T H)
def Bj(h:E.alts = .nil):Bu E:=by
 intro fr x l T H c w b a k cs B hl;unfold WM at hl;rw[h,M.get_nil]at hl;cases hl
def uW{rec:Rec}(hO:ab E rec)(hD:Bq E rec)(hL:pT E rec)(hR:WR E rec)(hAl:Bu E)(fr:Fr)(c:Code):pW E fr c (λT H=>Jd c E rec fr T H):=by
 induction c with
 | skip=>
  intro T H g w b a k cs B it hit i;obtain rfl:it = .code .skip:=by rcases hit with h|⟨d,h,_⟩;exact h;cases h
  exact⟨g,w,a,i.post,.one stepR_skip⟩
 | region id ops d=>
  intro T H g w b a k cs B it hit i
  cases d with
  | true=>exact hD fr id ops T H g w b a k cs B it hit i
  | false=>
   obtain rfl:it = .code (.region id ops false):=by rcases hit with h|⟨d,h,_⟩;exact h;cases h
   have:=zbH hO (b:=b) (ops:=ops) (k:=k) (cs:=cs) ops.size 0 T H g w a i I;rw[drop_zero,<- List.range_eq_range']at this
   exact this.steps (.one stepR_region)
 | seq x y t r=>
  intro T H g w b a k cs B it hit i;obtain rfl:it = .code (.seq x y):=by rcases hit with h|⟨d,h,_⟩;exact h;cases h
  have h1:=t T H g w b a (.code y::k) cs B _ (.inl rfl) i;refine Out.steps (.one stepR_seq) ?_;show Out E.P fr B g H w b k cs _ (@jr.rec (λ_=>jr) .fail (λT H=>Jd y E rec fr T H) (λid T H=>.ex id T H) (λT H=>.ret T H) (Jd x E rec fr T H))
  cases hx:Jd x E rec fr T H with
  | fail=>trivial
  | nrm n H1=>
   simp only[hx]at h1;obtain⟨β',w',m,p,s⟩:=h1
   exact((r n H1 β' w' b m k cs B _ (.inl rfl) (p.at_ i)).before p.ext).steps s
  | ex id n H1=>
   simp only[hx]at h1;obtain⟨β',w',m,u,p,e,s⟩:=h1
   exact⟨β',w',m,u,p,e.trans (by simp[exitTo]),s⟩
  | ret n H1=>
   simp only[hx]at h1
   exact h1
 | cond c x y t r=>
  intro T H g w b a k cs B it hit i;obtain rfl:it = .code (.cond c x y):=by rcases hit with h|⟨d,h,_⟩;exact h;cases h
  show Out E.P fr B g H w b k cs _ (Z (ev T c) .fail λv=>Z (asBool v) .fail λq=>ifB q (Jd x E rec fr T H) (Jd y E rec fr T H))
  cases hc:ev T c with
  | none=>trivial
  | some v=>
   rw[ze]
   cases hb:asBool v with
   | none=>trivial
   | some q=>
    obtain rfl:=QF hb;rw[ze];have he:=(oN i.tmp i.glob hc).1;refine Out.steps (.one (stepR_cond he)) ?_
    cases q with
    | true=>exact t T H g w b a k cs B _ (.inl rfl) i
    | false=>exact r T H g w b a k cs B _ (.inl rfl) i
 | block id x z=>
  intro T H g w b a k cs B it hit i;obtain rfl:it = .code (.block id x):=by rcases hit with h|⟨d,h,_⟩;exact h;cases h
  have h1:=z T H g w b a (.inBlock id::k) cs B _ (.inl rfl) i;refine Out.steps (.one stepR_block) ?_;show Out E.P fr B g H w b k cs _ (@jr.rec (λ_=>jr) .fail (λT H=>.nrm T H) (λj T H=>ifB (Nat.beq j id) (.nrm T H) (.ex j T H)) (λT H=>.ret T H) (Jd x E rec fr T H))
  cases hx:Jd x E rec fr T H with
  | fail=>trivial
  | nrm n H1=>
   simp only[hx]at h1;obtain⟨β',w',m,p,s⟩:=h1
   exact⟨β',w',m,p,s.trans (.one stepR_inBlock)⟩
  | ex j n H1=>
   simp only[hx]at h1;obtain⟨β',w',m,u,p,e,s⟩:=h1;simp only[zo,zA];by_cases Q:j=id
   .subst Q;rw[Y Oc];have e:exitTo j u=some k:=by rw[e];simp[exitTo]
    exact⟨β',w',m,p,s.trans (.one (stepR_exit e))⟩
   .rw[O (by simpa using Q)];refine⟨β',w',m,u,p,?_,s⟩
    rw[e,exitTo,O (by simpa using λh=>Q h.symm)]
  | ret n H1=>
   simp only[hx]at h1
   exact h1
 | loop x z=>
  intro T H g w b a k cs B it hit i
  have h1:Out E.P fr B g H w b (.inLoop x::k) cs (lone (b.atR a (.code x::.inLoop x::k)) cs w) (Z (WM E fr.fn T) (Jd x E rec fr T H) λl=>W4 (λf=>Jd x (E.plus f) Z1 fr T H) l):=by
   cases hl:WM E fr.fn T with
   | none=>exact z T H g w b a (.inLoop x::k) cs B _ (.inl rfl) i
   | some l=>
    obtain⟨f,hf,h⟩:=hAl fr x l T H g w b a (.inLoop x::k) cs B hl i;exact eH l hf h
  have hs:Steps E.P (lone (b.atR a (it::k)) cs w) (lone (b.atR a (.code x::.inLoop x::k)) cs w):=by
   rcases hit with rfl|⟨d,h,rfl⟩
   .exact .one stepR_loop
   .cases h;exact .one stepR_inLoop
  refine Out.steps hs ?_;show Out E.P fr B g H w b k cs _ (CM x rec fr (Z (WM E fr.fn T) (Jd x E rec fr T H) λl=>W4 (λf=>Jd x (E.plus f) Z1 fr T H) l))
  cases hx:(Z (WM E fr.fn T) (Jd x E rec fr T H) λl=>W4 (λf=>Jd x (E.plus f) Z1 fr T H) l) with
  | fail=>trivial
  | nrm n H1=>
   simp only[hx]at h1;obtain⟨β',w',m,p,s⟩:=h1
   exact((hR fr (.loop x) n H1 β' w' b m k cs B _ (.inr ⟨x,rfl,rfl⟩) (p.at_ i)).before p.ext).steps s
  | ex j n H1=>
   simp only[hx]at h1;obtain⟨β',w',m,u,p,e,s⟩:=h1
   exact⟨β',w',m,u,p,e.trans (by simp[exitTo]),s⟩
  | ret n H1=>
   simp only[hx]at h1
   exact h1
 | rangeFunc f ps as bo iha ihb=>exact hL fr f ps as bo
 | exit id=>
  intro T H g w b a k cs B it hit i;obtain rfl:it = .code (.exit id):=by rcases hit with h|⟨d,h,_⟩;exact h;cases h
  exact⟨g,w,a,k,i.post,rfl,.refl _ _⟩
 | goto l=>intro T H g w b a k cs B it hit i;trivial
 | label l=>
  intro T H g w b a k cs B it hit i;obtain rfl:it = .code (.label l):=by rcases hit with h|⟨d,h,_⟩;exact h;cases h
  exact⟨g,w,a,i.post,.one stepR_label⟩
 | scope x z=>intro T H g w b a k cs B it hit i;trivial
 | ret=>
  intro T H g w b a k cs B it hit i;obtain rfl:it = .code .ret:=by rcases hit with h|⟨d,h,_⟩;exact h;cases h
  exact⟨g,w,a,k,i.post,.refl _ _⟩
 | refuse s=>intro T H g w b a k cs B it hit i;trivial
def zY{a:Type}{x:a}:∀ {l m:List a},x∈zX l m->x∈l\/x∈m:=by
 intro l m h;rw[zZ]at h;exact LJ.1 h
def Hq(h:∀f,ab (E.plus f) Z1/\Bq (E.plus f) Z1/\pT (E.plus f) Z1):Bu E:=by
 intro fr x l T H j w b a k cs B hl c;unfold WM at hl;replace hl:=D hl;obtain⟨q,hq,hl⟩:=hl;replace hl:=D hl;obtain⟨i,_,hl⟩:=hl;rw[yY]at hl;obtain⟨f,m,hfacts⟩:=c.glob.alts fr.fn q hq i l hl;refine⟨f,m,?_⟩;obtain⟨h1,h2,h3⟩:=h f;have e:N (E.plus f) fr B T H j w b a:=⟨c.rel,⟨c.glob.at_,c.glob.next,λg d=>(zY d).elim (λd=>hfacts g d) λd=>c.glob.facts g d,c.glob.tabs,Vv rfl⟩,c.frame,c.tmp,c.marks,c.base⟩
 exact uW (E:=E.plus f) h1 h2 h3 (λ_ _ _ _ _ _ _ _ _ _ _ _ _ _=>trivial) (Bj rfl) fr x T H j w b a k cs B _ (.inl rfl) e
end
end
section
variable[Unk]
def Rel.untrack(hR:Rel P β H w)(h:∀c,bL β H c->w'.heap[c]?=w.heap[c]?):Rel P β H w' where
 base:=hR.base
 blk:=λid b x h1 h2=>(hR.blk id b x h1 h2).heap (h _ ⟨id,b,x,h1,h2,rfl⟩)
 inj:=hR.inj
 bnd:=hR.bnd
 live:=hR.live
def XK (P:Ef):Prop:=∀(f:Eu) (fn:Func),P.funcs[f]?=some fn->(fn.name == "runtime.NumGoroutine")=false
def FA(arr:Eh)(r:ResultVar):Sem Value:=
 match r with
 | .tmp t=>pure (arr.getD t undef)
 | .cell a t=>do Go.loadVar t (<- asAddr (arr.getD a undef))
def vM(fn:Func)(arr:Eh):results fn arr=(do
  let b <- fn.results.mapM (FA arr)
  pure (if h:b.size=1 then b[0] else .tuple b)):=by
 have:FA arr=(λ
  | .tmp t=>pure (arr.getD t undef)
  | .cell a t=>do Go.loadVar t (<- asAddr (arr.getD a undef)):ResultVar->Sem Value):=by funext r;cases r<;>rfl
 rw[this];rfl
section
variable{E:Env}(hE:yF E)
include hE
theorem Ba(hR:Rel E.P β H w)(d:yH β n T arr){r:ResultVar}(h:Dx r E T H=some v) :
  WF β v/\(FA arr r).run E.P w = .ok (J β v) w:=by
 cases r with
 | tmp t=>
  obtain⟨e,hn⟩:=gm (t:=t) h;obtain⟨g1,f⟩:=(d.tmp t).known (by rw[e];exact hn);rw[e]at g1 f
  exact⟨g1,by simp only[FA];rw[f];simp⟩
 | cell a t=>
  have h:(bnd (T.get a) λv=>bnd (Yk v) λp=>E.loadVar H t p.1 p.2)=some v:=h;replace h:=D h;obtain⟨u,g,h⟩:=h;replace h:=D h;obtain⟨p,hp,h⟩:=h;obtain rfl:=yU hp;have b:tv T a = .ptr p.1 p.2:=by unfold tv;rw[g];rfl
  obtain⟨t1,t2⟩:=(d.tmp a).known (by rw[b];rfl);rw[b]at t1 t2;obtain⟨l1,l2⟩:=hR.loadVar hE h t1;refine⟨l1,?_⟩;simp only[FA,t2,J,asAddr,Lg,Ln,Li,l2]
theorem uK(hR:Rel E.P β H w)(b:yH β n T arr):∀(rs:List ResultVar) (l:List G),uL E T H rs=some l ->
  WFs β l/\(rs.mapM (FA arr)).run E.P w = .ok (K β l) w:=by
 intro rs
 induction rs with
 | nil=>intro l h;cases h;exact⟨trivial,by simp[K]⟩
 | cons r rs ih=>
  intro l h;replace h:=D h;obtain⟨a,ha,h⟩:=h;replace h:=D h;obtain⟨m,hm,h⟩:=h;cases h;obtain⟨g1,g⟩:=Ba hE hR b ha;obtain⟨f,d⟩:=ih m hm;refine⟨⟨g1,f⟩,?_⟩;rw[mapM_cons];simp only[Lg,g,Li,d,Ln,K]
theorem ND(hR:Rel E.P β H w)(d:yH β n T arr){fn:Func}(h:leave E fn T H=some (v,H')) :
  H'=H/\WF β v/\(results fn arr).run E.P w = .ok (J β v) w:=by
 replace h:=D h;obtain⟨l,hl,h⟩:=h;cases h;obtain⟨g1,f⟩:=uK hE hR d _ _ hl;refine⟨rfl,?_,?_⟩
 .unfold one
  cases l with
  | nil=>simp[WF,WFs]
  | cons a m=>
   cases m with
   | nil=>exact g1.1
   | cons b m=>exact g1
 .rw[vM,Lg,mapM_eq_mapM_toList,Sem.run_map,f];simp only[Li]
  cases l with
  | nil=>simp[one,J,K]
  | cons a m=>
   cases m with
   | nil=>simp[one,K]
   | cons b m=>simp[one,J,K]
omit hE in
theorem unwind_ok{B:Nat}{fr:Frame}{cs:List Frame}(hm:fr.mode = .returning):∀(rs:Eb) (w:Ea),ae B w β H rs->fr.defers=rs.map Xq ->
  ∃w',Steps P (lone fr cs w) (lone { fr with defers:=[] } cs w')/\(∀c,(c<B\/bL β H c)->w'.heap[c]?=w.heap[c]?)/\w'.heap.size=w.heap.size/\w'.tape=w.tape/\w'.os=w.os/\w'.output=w.output:=by
 intro rs
 induction rs generalizing fr with
 | nil=>
  intro w _ hd;refine⟨w,?_,λ_ _=>rfl,rfl,rfl,rfl,rfl⟩;have:{ fr with defers:=[] }=fr:=by cases fr;simp at hd;subst hd;rfl
  rw[this]
  exact .refl _ _
 | cons r rs ih=>
  intro w h hd;obtain⟨a1,a2,a3,a4⟩:=h.each r Oc;have ht:=run_takeDeferred (P:=P) a4
  have hs:step P (lone fr cs w) = .next (lone { fr with defers:=rs.map Xq } cs (w.putObj r (.deferred none))):=by
   refine step_lone_go ?_;simp only[stepG,hm];simp[unwind,hd,Xq,Sem.runT_eq,ht,GStep.bare_after];exact hm
  have hne:∀c,c≠r->(w.putObj r (.deferred none)).heap[c]?=w.heap[c]?:=by
   intro c hc;simp only[World.putObj,AN];rw[O (λe=>hc e.symm)]
  have hnd:=h.nodup;rw[nodup_cons]at hnd
  obtain⟨w',s,k1,k2,k3,k4,k5⟩:=ih (fr:={ fr with defers:=rs.map Xq }) hm (w.putObj r (.deferred none))
   ⟨hnd.2,λr' hr'=>by
    obtain⟨b1,b2,b3,b4⟩:=h.each r' (by simp[hr']);refine⟨b1,by simpa[World.putObj] using b2,b3,?_⟩;rw[hne r' λe=>hnd.1 (by rw[<- e];exact hr')]
    exact b4⟩ rfl
  refine⟨w',.head hs s,λc hc=>?_,by rw[k2];simp[World.putObj],k3,k4,k5⟩;rw[k1 c hc,hne];rintro rfl;rcases hc with hc|hc
  .omega
  .exact a3 hc
theorem Hu{args:List G}(h:WFs β args)(a:Nat) :
  yH β (tc a (je args 0)) (M.ofList args) ((K β args).toArray++Array.replicate (a-(K β args).toArray.size) undef) where
 size:=by
  have _:=hE
  have hm:tc a args.length=max a args.length:=by
   unfold tc;rw[zo,zK];by_cases h:a<=args.length
   .rw[Y (by simp[h])];omega
   .rw[O (by simp[h])];omega
  rw[jV,hm];simp[zC];omega
 tmp:=λi=>by
  have ht:tv (M.ofList args) i=args[i]?.getD jo:=by unfold tv;rw[M.qy]
  rw[ht]
  cases hi:args[i]? with
  | none=>
   refine .inr ⟨Oc,?_⟩;have:args.length<=i:=by simpa using hi
   rw[getD_eq_getD_getElem?,Array.getElem?_append_right (by simp[zC];exact this),Array.getElem?_replicate];simp only[getD_none,XF]
   split<;>rfl
  | some v=>
   have b:=(LL.1 hi).1;refine .inr ⟨(qb _ _).1 h v (LX hi),?_⟩;rw[getD_eq_getD_getElem?,Array.getElem?_append_left (by simp[zC];exact b)];simp[zC,hi]
theorem iq{rec : Rec}(n : WR E rec){f : FuncId}{args : List G}{H H' : Heap}{v : G}(h : qL E rec f args H = some (v, H')){β : Inj}{w : World}(hR : Rel E.P β H w)(T : YE E β H)(i : WFs β args) :
    (∃fn c, E.P.funcs[f]?=some fn /\ fn.body = some c) /\ Calls E.P f (K β args).toArray w λe w2 => ∃x, e = .returned x /\ RR E.P β H w v H' x w2 := by
  replace h := D h;obtain⟨fn, u, h⟩ := h;rw[hE.funcs] at u;replace h := D h;obtain⟨c, hb, h⟩ := h;refine⟨⟨fn, c, u, hb⟩, λcs => ?_⟩;let b : Frame := { (default : Frame) with fn := f, kind := .normal }
  let y : Act := { tmps := (K β args).toArray ++ Array.replicate (fn.ntmps - (K β args).toArray.size) undef, defers := [] }
  have a : Frame.enter E.P f (K β args).toArray .normal = b.atR y [.code c] := by
    simp[Frame.enter, Frame.atR, u, hb, b, y];rfl
  have hA : N E ⟨tc fn.ntmps (je args 0), f, none⟩ w.heap.size (M.ofList args) H β w b y :=
    ⟨hR, T, ⟨rfl, rfl, rfl, by intro l hl; cases hl⟩, Hu hE i _, ⟨[], rfl, ⟨nodup_nil, by simp⟩⟩, Lh _⟩
  have j := n ⟨tc fn.ntmps (je args 0), f, none⟩ c (M.ofList args) H β w b y [] cs w.heap.size _ (.inl rfl) hA
  have fin : ∀(g : M G) (H1 : Heap) (β' : Inj) (w' : World) (d : Act) (todo : List Item), U9 E.P β H w ⟨tc fn.ntmps (je args 0), f, none⟩ w.heap.size β' H1 w' g d ->
      leave E fn g H1 = some (v, H') ->
      Steps E.P (lone (Frame.enter E.P f (K β args).toArray .normal) cs w) (lone { b.atR d todo with mode := .returning } cs w') ->
      ∃e w2 fr, (∃x, e = Ending.returned x /\ RR E.P β H w v H' x w2) /\ Comes E.P (lone (Frame.enter E.P f (K β args).toArray .normal) cs w) (lone fr cs w2) e /\ fr.fn = f /\ fr.leaving E.P w2 e := by
    intro g H1 β' w' d todo p hl hs;obtain⟨rs, z, hm⟩ := p.marks;obtain⟨w2, s2, k1, k2, k3, k4, k5⟩ := unwind_ok (P := E.P) (β := β') (H := H1) (B := w.heap.size) (fr := { b.atR d todo with mode := .returning }) (cs := cs) rfl rs w' hm z;have t := p.rel.untrack (w' := w2) λc hc => k1 c (.inr hc);obtain⟨rfl, hv, k⟩ := ND hE t p.tmp hl
    have m : Ext β H w β' H' w2 :=
      ⟨p.ext.old, p.ext.next, p.ext.apart, p.ext.gone, p.ext.ro, p.ext.new, λc hc Q => by rw[k1 c (.inl hc)]; exact p.ext.frame c hc Q, by rw[k2]; exact p.ext.size, k3.trans p.ext.tape, k4.trans p.ext.os, k5.trans p.ext.output⟩
    exact⟨.returned (J β' v), w2, _, ⟨_, rfl, β', rfl, hv, t, m⟩, hs.trans s2, rfl, rfl, rfl, rfl, fn, u, k⟩
  rw[<- a] at j;revert h j
  cases rec ⟨tc fn.ntmps (je args 0), f, none⟩ c (M.ofList args) H with
  | fail => intro h; cases h
  | nrm g H1 =>
    intro h j;obtain⟨β', w', d, p, s⟩ := j
    exact fin g H1 β' w' d _ p h (s.trans (.one (stepR_end rfl)))
  | ex id g H1 => intro h; cases h
  | ret g H1 =>
    intro h j;obtain⟨β', w', d, k1, p, s⟩ := j;exact fin g H1 β' w' d _ p h (s.trans (.one (stepR_ret rfl)))
theorem ZK(hN:XK E.P){rec:Rec}(b:WR E rec){args:List G}(h:qL E rec f args H=some (v,H'))(hR:Rel E.P β H w)(d:YE E β H)(a:WFs β args) :
  Res E.P (callFunc f (K β args).toArray) w (RR E.P β H w v H'):=by
 obtain⟨⟨fn,c,h1,h2⟩,h3⟩:=iq hE b h hR d a;have hn:fn.name ≠ "runtime.NumGoroutine" := by simpa using hN f fn h1
 refine⟨.enter f (K β args).toArray,w,?_,h3⟩;simp[callFunc,h1,hn,h2]
end
end
section
variable[Unk]
def Qb(P:Ef)(f:Eu)(e:Array Value->Sem Value):Prop:=
 ∃fn:Func,P.funcs[f]?=some fn/\(fn.name == "runtime.NumGoroutine")=false/\fn.body.isNone=true/\Extern.findNext fn=none/\Extern.find fn=some e
def pP(E:Env):Prop:=∀f s,E.spec.get f=some s ->
 match s with
 | .mapsClone=>Qb E.P f Extern.MapsClone.clone
 | .indexByte=>Qb E.P f Extern.BytealgIndexByte.indexByte
 | .makeNoZero e=>∃ps t,Qb E.P f (Extern.BytealgMakeNoZero.makeNoZero ps #[t])/\E.P.underlying t=some (.slice e)/\qS E.P e=1
 | .same=>Qb E.P f Extern.AbiNoEscape.same
 | .insert=>True
 | .compare=>Qb E.P f Extern.BytealgCompare.compare
 | .count=>Qb E.P f Extern.BytealgCount.count
 | .fact=>True
def Qb.res{e:Array Value->Sem Value}(h:Qb P f e){args:Eh}(hs:Sim P β H w (e args) v H') :
  Res P (callFunc f args) w (RR P β H w v H'):=by
 obtain⟨fn,h1,h2,h3,h4,h5⟩:=h;obtain⟨β',w',g1,z,u,g⟩:=hs;refine⟨.value (J β' v),w',?_,β',rfl,z,u,g⟩;rw[run_callFunc_extern h1 h2 h3 h4 h5,g1];rfl
section
variable{E:Env}(hE:yF E)
include hE
omit hE in
theorem iB{P : Program}{β : Inj}{H H' : Heap}{w : World}(hR : Rel P β H w){args : List G}{v : G}(h : dX args H = some (v, H'))(hx : WFs β args) :
    Sim P β H w (Extern.MapsClone.clone (K β args).toArray) v H' := by
  cases args with
  | nil => cases h
  | cons a q =>
    replace h := Jc h;obtain⟨hnil, h⟩ := h;subst hnil;replace h := D h;obtain⟨p, hp, h⟩ := h;have := gY hp;subst this;replace h := D h;obtain⟨r, hr, h⟩ := h;have hp2 := U3 hr;replace h := D h;obtain⟨b, hb, h⟩ := h;replace h := D h;obtain⟨m, hm, h⟩ := h;simp only[qg] at h;cases h;have hx1 : WF β p.2 := hx.1;rw[hp2] at hx1;obtain⟨y, hy⟩ := LM.1 hx1
    cases b with
    | cells _ _ _ => cases hm
    | loop _ _ _ _ _ _ _ _ => cases hm
    | siter _ _ => cases hm
    | text _ _ => cases hm
    | pack _ _ _ => cases hm
    | ints _ _ => cases hm
    | view _ => cases hm
    | map es c =>
      cases hm;obtain⟨arr, a1, a2, a3⟩ := hR.blk r _ y hb hy;have hfr := hR.fresh (Lh H.next);obtain⟨r1, r2⟩ := hR.add (.map es c) (.map arr c) 0 (zO.mono (β := β) (b := .map es c) ⟨arr, yN _ _, a2, a3⟩ (Inj.yL hfr));refine⟨β.put H.next (w.heap.size, 0, 0), push w (.map arr c), ?_, by simp[WF, Inj.zS], r1, r2⟩;have hyb : β.blk r = y.1 := by simp[Inj.blk, hy]
      have a1' : w.heap[β.blk r]?=some (.map arr c) := by rw[hyb]; exact a1
      have hdef : Extern.MapsClone.clone #[.iface p.1 (.map (some (β.blk r)))] = (do
          let .map entries clock <- getObj (β.blk r)|stuck "maps.clone: a map expected"
          pure (.iface p.1 (.map (some (<- newObj (.map entries clock)))))) := rfl
      have hc : (K β [G.iface p.1 p.2]).toArray = #[.iface p.1 (.map (some (β.blk r)))] := by rw[hp2]; rfl
      rw[hc, hdef];simp only[Lg, MapKept.run_getObj_map a1', Li, run_newObj, Ln];have hm : J (β.put H.next (w.heap.size, 0, 0)) (.iface p.1 (.map H.next)) = .iface p.1 (.map (some w.heap.size)) := by simp[J, Inj.blk, Inj.zS]
      rw[hm];rfl
omit hE in
theorem ud(c:Nat)(hc:c<256):∀(s:Eb) (i:Nat),(∀b∈s,b<256)->UL c s i=match s.findIdx? (λb=>UInt8.ofNat b==UInt8.ofNat c) with|some k=>Int.ofNat (i+k)|none=>-1:=by
 intro s
 induction s with
 | nil=>intro i _;rfl
 | cons b s ih=>
  intro i h;have hb:=h b Oc;have e:UL c (b::s) i=ifB (Nat.beq b c) (.ofNat i) (UL c s (Nat.succ i)):=rfl;rw[e,findIdx?_cons,zo,zA];by_cases hbc:b=c
  .subst hbc;simp
  .have:(UInt8.ofNat b==UInt8.ofNat c)=false:=by
    rw[beq_eq_false_iff_ne];exact λq=>hbc (ofNat_inj hb hc q)
   rw[this,O (by simpa using hbc),ih (Nat.succ i) λx hx=>h x (by simp[hx])];simp only[Ai,LY]
   cases s.findIdx? (λb=>UInt8.ofNat b==UInt8.ofNat c) with
   | none=>rfl
   | some k=>simp only[Ac];congr 1;omega
omit hE in
theorem firstIdx_eq(s:Eb)(c:UInt8):firstIdx (str s) c=match s.findIdx? (λb=>UInt8.ofNat b==c) with|some k=>Int.ofNat k|none=>-1:=by
 have hget:∀i,i<s.length->(str s)[i]! = UInt8.ofNat (s.getD i 0):=by
  intro i hi;have h1:i<(str s).size:=by rw[qA];exact hi
  rw[getElem!_pos (str s) i h1];show(str s).data[i]=_;simp[str,hi]
 unfold firstIdx;rw[qA]
 have key:(List.range s.length).find? (λi=>(str s)[i]! == c)=s.findIdx? (λb=>UInt8.ofNat b==c):=by
  cases hf:s.findIdx? (λb=>UInt8.ofNat b==c) with
  | none=>
   rw[List.findIdx?_eq_none_iff]at hf;rw[List.find?_eq_none];intro i hi;have hi:=Lr.1 hi;rw[hget i hi];have:=hf s[i] (AL hi)
   simp[hi,this]
  | some k=>
   rw[List.findIdx?_eq_some_iff_getElem]at hf;obtain⟨h1,h2,h3⟩:=hf;rw[List.find?_eq_some_iff_getElem];refine⟨by rw[hget k h1];simpa[h1] using h2,k,by simpa using h1,Oc,λj hj=>?_⟩;have hj':j<s.length:=by omega
   have:=h3 j hj;simp only[List.getElem_range];rw[hget j hj'];simp[hj']at this ⊢;exact this
 rw[key];cases s.findIdx? (λb=>UInt8.ofNat b==c)<;>rfl
omit hE in
theorem iC(hR:Rel P β H w){args:List G}(h:dZ args H=some (v,H'))(hx:WFs β args) :
  Sim P β H w (Extern.BytealgIndexByte.indexByte (K β args).toArray) v H':=by
 cases args with
 | nil=>cases h
 | cons a r=>
  cases r with
  | nil=>cases h
  | cons b q=>
   replace h:=Jc h;obtain⟨hnil,h⟩:=h;subst hnil;replace h:=D h;obtain⟨s,hs,h⟩:=h;obtain rfl:=qU hs;replace h:=D h;obtain⟨c,hc,h⟩:=h;obtain⟨n,rfl,rfl⟩:=Kx hc;cases h;refine qk.sim ⟨?_,by simp[WF]⟩ hR;have:=run_indexByte_string (P:=P) (str s) (Int.ofNat n) w;have hc:(K β [G.str s,G.int .u8 (.ofNat n)]).toArray = #[.string (str s),.int .u8 (Int.ofNat n)]:=rfl;rw[hc,this,firstIdx_eq,kM,ud (n % 256) (Af _ I) s 0 hx.1,ofNat_mod];have e:((Int.ofNat n).toNat).toUInt8=UInt8.ofNat n:=rfl;rw[e]
   cases s.findIdx? (λb=>UInt8.ofNat b==UInt8.ofNat n) with
   | none=>rfl
   | some k=>simp[J]
omit hE in
theorem GI(c:Nat)(hc:c<256):∀(s:Eb),(∀b∈s,b<256)->Lib.countByte (s.map UInt8.ofNat) (UInt8.ofNat c)=gE c s:=by
 intro s
 induction s with
 | nil=>intro _;rfl
 | cons b s ih=>
  intro h;have hb:=h b Oc;have e:gE c (b::s)=ifB (Nat.beq b c) (Nat.succ (gE c s)) (gE c s):=rfl;have ih:=ih λx hx=>h x (by simp[hx]);unfold Lib.countByte at ih ⊢;rw[e,Aw,count_cons,ih,zo,zA];by_cases hbc:b=c
  .subst hbc;simp
  .have:(UInt8.ofNat b==UInt8.ofNat c)=false:=by
    rw[beq_eq_false_iff_ne];exact λq=>hbc (ofNat_inj hb hc q)
   rw[this];simp[hbc]
omit hE in
theorem DL(hR:Rel P β H w){args:List G}(h:Ig args H=some (v,H'))(hx:WFs β args) :
  Sim P β H w (Extern.BytealgCount.count (K β args).toArray) v H':=by
 cases args with
 | nil=>cases h
 | cons a r=>
  cases r with
  | nil=>cases h
  | cons b q=>
   replace h:=Jc h;obtain⟨hnil,h⟩:=h;subst hnil;replace h:=D h;obtain⟨s,hs,h⟩:=h;obtain rfl:=qU hs;replace h:=D h;obtain⟨c,hc,h⟩:=h;obtain⟨n,rfl,rfl⟩:=Kx hc;cases h;refine qk.sim ⟨?_,by simp[WF]⟩ hR;have hc:(K β [G.str s,G.int .u8 (.ofNat n)]).toArray = #[.string (str s),.int .u8 (Int.ofNat n)]:=rfl;have e:((Int.ofNat n).toNat).toUInt8=UInt8.ofNat (n % 256):=by rw[ofNat_mod];rfl
   rw[hc,Lib.run_countString (str s) (Int.ofNat n) w,X1,e,GI (n % 256) (Af _ I) s hx.1,kM];rfl
omit hE in
theorem zcS(s:Eb)(i:Nat):(str s)[i]! = (s.map UInt8.ofNat).getD i 0:=by
 by_cases h:i<s.length
 .have h1:i<(str s).size:=by rw[qA];exact h
  rw[getElem!_pos (str s) i h1];show(str s).data[i]=_;simp[str,h]
 .rw[getElem!_neg (str s) i (by rw[qA];exact h)];simp[List.getD,Au (show(s.map UInt8.ofNat).length<=i by simp;omega)];rfl
def xC(a b:List UInt8):Int:=
 match(List.range (min a.length b.length)).find? λi=>a.getD i 0 != b.getD i 0 with
 | some i=>if a.getD i 0<b.getD i 0 then -1 else 1
 | none=>if a.length<b.length then -1 else if a.length > b.length then 1 else 0
omit hE in
theorem GN(x y:UInt8)(a b:List UInt8):xC (x::a) (y::b)=if x<y then -1 else if x=y then xC a b else 1:=by
 unfold xC;have e:min (x::a).length (y::b).length=(min a.length b.length)+1:=by simp[Nat.add_min_add_right]
 rw[e,List.range_succ_eq_map,find?_cons];by_cases h:x=y
 .subst h;have hx:¬x<x:=UInt8.lt_irrefl x;simp only[getD_cons_zero,bne_self_eq_false,List.find?_map,O hx,if_true]
  have e2:((λi=>(x::a).getD i 0 != (x::b).getD i 0) ∘ Nat.succ)=λi=>a.getD i 0 != b.getD i 0:=by
   funext i;simp
  rw[e2]
  cases(List.range (min a.length b.length)).find? λi=>a.getD i 0 != b.getD i 0 with
  | none=>simp
  | some k=>simp
 .have hb:(x != y)=true:=by simpa using h
  simp only[getD_cons_zero,hb,O h]
omit hE in
theorem cmp_eq(s t:Eb)(hs:∀b∈s,b<256)(ht:∀b∈t,b<256):Extern.BytealgCompare.cmp (str s) (str t)=GQ s t:=by
 have e:Extern.BytealgCompare.cmp (str s) (str t)=xC (s.map UInt8.ofNat) (t.map UInt8.ofNat):=by
  unfold Extern.BytealgCompare.cmp xC;simp only[qA,Ls,zcS];rfl
 rw[e];clear e
 induction s generalizing t with
 | nil=>
  cases t with
  | nil=>rfl
  | cons b t=>simp[xC,GQ,ZY]
 | cons a s ih=>
  cases t with
  | nil=>simp[xC,GQ,ou]
  | cons b t=>
   have ha:=hs a Oc;have hb:=ht b Oc;have e1:GQ (a::s) (b::t)=ifB (Nat.blt a b) (.negSucc 0) (ifB (Nat.beq a b) (GQ s t) (.ofNat 1)):=rfl;rw[Aw,Aw,GN,e1,ih t (λx hx=>hs x (by simp[hx])) (λx hx=>ht x (by simp[hx]))]
   have h1:(UInt8.ofNat a<UInt8.ofNat b)↔a<b:=by
    rw[UInt8.lt_iff_toNat_lt];simp[AA ha,AA hb]
   have h2:(UInt8.ofNat a=UInt8.ofNat b)↔a=b:=⟨ofNat_inj ha hb,λh=>by rw[h]⟩
   simp only[h1,h2,zo,zW,zA,Lk,Ll];rfl
omit hE in
theorem rh(hR:Rel P β H w){args:List G}(h:ri args H=some (v,H'))(hx:WFs β args) :
  Sim P β H w (Extern.BytealgCompare.compare (K β args).toArray) v H':=by
 cases args with
 | nil=>cases h
 | cons a r=>
  cases r with
  | nil=>cases h
  | cons b q=>
   replace h:=Jc h;obtain⟨hnil,h⟩:=h;subst hnil;replace h:=D h;obtain⟨s,hs,h⟩:=h;obtain rfl:=qU hs;replace h:=D h;obtain⟨t,ht,h⟩:=h;obtain rfl:=qU ht;cases h;refine qk.sim ⟨?_,by simp[WF]⟩ hR;have hc:(K β [G.str s,G.str t]).toArray = #[.string (str s),.string (str t)]:=rfl;rw[hc,kM,<- cmp_eq s t hx.1 hx.2.1];have hd:Extern.BytealgCompare.compare #[.string (str s),.string (str t)]=(do pure (goInt (Extern.BytealgCompare.cmp (<- Extern.Bytes.bytesOf (.string (str s))) (<- Extern.Bytes.bytesOf (.string (str t))))):Sem Value):=rfl;rw[hd];simp[Extern.Bytes.bytesOf,J,goInt]
theorem dY(hR:Rel E.P β H w){e t:Eg}{ps:Array TypeId}{args:List G}(h:bP e args H=some (v,H'))(hx:WFs β args)
  (ht:E.P.underlying t=some (.slice e)) (hs:qS E.P e=1):Sim E.P β H w (Extern.BytealgMakeNoZero.makeNoZero ps #[t] (K β args).toArray) v H':=by
 have _:=hE
 cases args with
 | nil=>cases h
 | cons a q=>
  replace h:=Jc h;obtain⟨hnil,h⟩:=h;subst hnil;replace h:=D h;obtain⟨p,hp,h⟩:=h;obtain rfl:=jx hp;replace h:=zh h;obtain⟨hi,h⟩:=h;replace h:=jq h;obtain⟨n,hn,h⟩:=h;replace h:=zh h;obtain⟨hle,h⟩:=h;rw[zK,Lk]at hle;simp only[qg]at h;cases h;obtain⟨cs,c1,c2,_⟩:=Lib.run_makeNoZero (P:=E.P) w ps t e ht n I;have g:Alike w w.drew.drew:=⟨rfl,rfl,rfl,rfl⟩
  have f:=hR.alike g
  obtain⟨r1,r2⟩:=f.newRow (t:=e) (n:=n) (c:=.nil) (arr:=cs) (e:=cs.size-n) (fz:=(0,0))
   ⟨by rw[hs];omega,λi v hv=>Ld hv (by rw[M.get_nil];simp),λi _ hf=>by simp at hf,Nat.dvd_zero _⟩
  refine⟨β.put H.next (w.heap.size,0,cs.size-n),push w.drew.drew (.cells cs e),?_,⟨by simp[Inj.zS],Lh _⟩,r1,(Ext.alike hR.bnd g).trans r2⟩
  have hc:(K β [G.int p.1 p.2]).toArray = #[.int .i64 (n:Int)]:=by
   have h1:=Zp hi;simp only[K,J];rw[h1,hn];rfl
  rw[hc,c1];simp only[J,UM,yV,Ai,LY];rw[show n+(cs.size-n)=cs.size by omega];rfl
omit hE in
theorem mm(hR:Rel P β H w){l:Nat}{q:Lp}(h:H.lp l=some q)(hl:(β l).isSome) :
  H.blk.get l=some q.blk/\∃r:Loop,w.heap[β.blk l]?=some (.loop r)/\r.state=q.st/\r.pending=q.pend/\r.fn=q.fn/\yH β q.n q.T r.tmps/\r.params=q.ps/\r.assign=q.assign/\r.body=q.body:=by
 replace h:=zh h;obtain⟨_,h⟩:=h;replace h:=D h;obtain⟨b,hb,h⟩:=h
 cases b with
 | cells _ _ _=>cases h
 | map _ _=>cases h
 | siter _ _=>cases h
 | text _ _=>cases h
 | pack _ _ _=>cases h
 | ints _ _=>cases h
 | view _=>cases h
 | loop st pend fn n T ps as bo=>
  cases h;refine⟨hb,?_⟩;obtain⟨y,hy⟩:=LM.1 hl;obtain⟨tmps,d,h1,h2⟩:=hR.blk l _ y hb hy;exact⟨_,by simp[Inj.blk,hy];exact h1,rfl,rfl,rfl,h2,rfl,rfl,rfl⟩
omit hE in
theorem eD(hR:Rel P β H w){l:Nat}{q:Lp}(h:H.lp l=some q)(hl:(β l).isSome){r:Loop}(hr:w.heap[β.blk l]?=some (.loop r))(st:LoopState)(pend:Option Code) :
  Rel P β (H.J8 l q st pend) (w.putObj (β.blk l) (.loop { r with state:=st,pending:=pend })) /\
  Ext β H w β (H.J8 l q st pend) (w.putObj (β.blk l) (.loop { r with state:=st,pending:=pend })):=by
 obtain⟨h1,r',h2,h3,h4,h5,h6,h7,h8,h9⟩:=mm hR h hl;rw[hr]at h2;cases h2;obtain⟨y,hy⟩:=LM.1 hl;have hb:β.blk l=y.1:=by simp[Inj.blk,hy]
 have hlt:=(LO.1 hr).1
 have h60:100<=l:=by
  have:=(zh h).1;rwa[zK,Lk]at this
 refine hR.KX h60 h1 hy ?_ ?_
 .rw[hb];exact⟨λk hk=>putObj_heap_other hk,putObj_size,rfl,rfl,rfl⟩
 .refine⟨r.tmps,r.defers,?_,h6⟩;rw[<- hb,putObj_heap_same hlt];simp[h5,h7,h8,h9]
omit hE in
theorem Fq:∀(ps:List Tmp) (args:List G) (T:M G) (arr:Eh),yH β n T arr->WFs β args->Nw n ps=true->args.length=ps.length ->
  yH β n (az ps args T) ((ps.zip (K β args)).foldl (λtmps (p:Tmp×Value)=>tmps.setIfInBounds p.1 p.2) arr):=by
 intro ps
 induction ps with
 | nil=>intro args T arr h _ _ _;exact h
 | cons p ps ih=>
  intro args T arr h hw hl hn
  cases args with
  | nil=>simp at hn
  | cons a args=>
   have hl:ifB (Nat.blt p n) (Nw n ps) false=true:=hl;rw[zo]at hl;split at hl
   .rename_i hp;rw[zW,Lk]at hp;exact ih args (T.set p a) (arr.setIfInBounds p (J β a)) (h.set hp hw.1) hw.2 hl (by simpa using hn)
   .cases hl
theorem Hm{rec : Rec}(hRec : WR E rec){l : Nat}{args : List G}{H H' : Heap}{v : G}(h : xY rec l args H = some (v, H')){β : Inj}{w : World}(hR : Rel E.P β H w)(hG : YE E β H)(hargs : WFs β args)
    (hl : (β l).isSome) : Res E.P (Instr.yield (β.blk l) (K β args).toArray) w (RR E.P β H w v H') := by
  have _ := hE;replace h := D h;obtain⟨q, hq, h⟩ := h;replace h := zh h;obtain⟨hc, h⟩ := h;simp only[zl, Le, zA, Ll, jV] at hc;obtain⟨hc1, hc2, hc3⟩ := hc;obtain⟨h1, r, h2, h3, h4, h5, h6, h7, h8, h9⟩ := mm hR hq hl;have hsz : (K β args).toArray.size = r.params.size := by rw[h7]; simp[zC, hc2]
  have hy := run_yield (P := E.P) h2 hsz;refine⟨_, w, hy, ?_⟩;intro c cs;let b : Frame := { (default : Frame) with fn := q.fn, kind := .normal, roundOf := some (β.blk l) }
  let a0 : Act := { tmps := (r.params.zip (K β args).toArray).foldl (λtmps (t, a) => tmps.setIfInBounds t a) r.tmps, defers := [] }
  have hb0 : Frame.round (β.blk l) r.fn a0.tmps r.assign r.body .normal = b.atR a0 [.code q.assign, .beginRound, .code q.body] := by
    rw[h5, h8, h9];simp[Frame.round, Frame.atR, b, a0]
  have hT0 : yH β q.n (az q.ps.toList args q.T) a0.tmps := by
    have := Fq q.ps.toList args q.T r.tmps h6 hargs hc3 (by rw[hc2])
    have e : a0.tmps = (q.ps.toList.zip (K β args)).foldl (λtmps (p : Tmp × Value) => tmps.setIfInBounds p.1 p.2) r.tmps := by
      show(r.params.zip (K β args).toArray).foldl (λtmps (x : Tmp × Value) => tmps.setIfInBounds x.1 x.2) r.tmps = _;rw[h7, <- Array.foldl_toList, toList_zip]
    rw[e];exact this
  have hA0 : N E ⟨q.n, q.fn, some l⟩ w.heap.size (az q.ps.toList args q.T) H β w b a0 :=
    ⟨hR, hG, ⟨rfl, rfl, rfl, λl' hl' => by cases hl'; exact hl⟩, hT0, ⟨[], rfl, ⟨nodup_nil, by simp⟩⟩, Lh _⟩
  show ∃v_1 w2, RR E.P β H w v H' v_1 w2 /\ Steps E.P (lone (Frame.round (β.blk l) r.fn a0.tmps r.assign r.body .normal) (c :: cs) w) (lone (c.finish v_1) cs w2);rw[hb0];have ho := hRec ⟨q.n, q.fn, some l⟩ q.assign (az q.ps.toList args q.T) H β w b a0 [.beginRound, .code q.body] (c :: cs) w.heap.size _ (.inl rfl) hA0;revert h ho
  cases rec ⟨q.n, q.fn, some l⟩ q.assign (az q.ps.toList args q.T) H with
  | fail => intro h; cases h
  | ex id T1 H1 => intro h; cases h
  | ret T1 H1 => intro h; cases h
  | nrm T1 H1 =>
    intro h ho;obtain⟨β1, w1, a1, p1, s1⟩ := ho;replace h := D h;obtain⟨q1, hq1, h⟩ := h;replace h := zh h;obtain⟨hrd, h⟩ := h;have hle1 := p1.ext.le hR.bnd;have u : (β1 l).isSome := by rw[hle1.some hl]; exact hl
    have hbl1 : β1.blk l = β.blk l := by simp[Inj.blk, hle1.some hl]
    obtain⟨g1, r1, g2, g3, g4, g5, g6, g7, g8, g9⟩ := mm p1.rel hq1 u
    have hst : r1.state = .ready := by
      rw[g3];revert hrd;cases q1.st <;> intro hrd <;> first|rfl|cases hrd
    obtain⟨k1, k2⟩ := eD p1.rel hq1 u g2 .busy r1.pending;rw[g4] at k1 k2
    have hbr : (Instr.beginRound (β.blk l)).run E.P w1 = .ok () (w1.putObj (β1.blk l) (.loop { r1 with state := .busy, pending := q1.pend })) := by
      rw[<- hbl1, run_beginRound g2 hst];have : ({ r1 with state := .busy, pending := q1.pend } : Loop) = { r1 with state := .busy } := by rw[<- g4]
      rw[this]
    have s2 : Steps E.P (lone (b.atR a1 [.beginRound, .code q.body]) (c :: cs) w1) (lone (b.atR a1 [.code q.body]) (c :: cs) (w1.putObj (β1.blk l) (.loop { r1 with state := .busy, pending := q1.pend }))) :=
      .one (stepR_beginRound rfl hbr)
    have hA1 : N E ⟨q.n, q.fn, some l⟩ w.heap.size T1 (H1.J8 l q1 .busy q1.pend) β1 (w1.putObj (β1.blk l) (.loop { r1 with state := .busy, pending := q1.pend })) b a1 := by
      have hA := p1.at_ hA0;exact⟨k1, hA.glob.ext hA.rel.bnd k2, hA.frame, hA.tmp, hA.marks.ext k2, Lj hA.base k2.size⟩
    have g := hRec ⟨q.n, q.fn, some l⟩ q.body T1 (H1.J8 l q1 .busy q1.pend) β1 _ b a1 [] (c :: cs) w.heap.size _ (.inl rfl) hA1;have hext1 := p1.ext.trans k2
    have fin : ∀(β3 : Inj) (Q : Heap) (w3 : World) (T3 : M G) (a3 : Act) (q3 : Lp) (st : LoopState) (jump : Option Code), U9 E.P β1 (H1.J8 l q1 .busy q1.pend) (w1.putObj (β1.blk l) (.loop { r1 with state := .busy, pending := q1.pend })) ⟨q.n, q.fn, some l⟩ w.heap.size β3 Q w3 T3 a3 ->
        Q.lp l = some q3 -> st = (if jump.isNone then .ready else .done) ->
        ∃w4, (Instr.endRound (β.blk l) jump).run E.P w3 = .ok (.bool jump.isNone) w4 /\ RR E.P β H w (.bool jump.isNone) (Q.J8 l q3 st jump) (.bool jump.isNone) w4 := by
      intro β3 Q w3 T3 a3 q3 st jump z f hst3;have hle3 := z.ext.le k1.bnd;have hl3 : (β3 l).isSome := by rw[hle3.some u]; exact u
      have hbl3 : β3.blk l = β.blk l := by rw[<- hbl1]; simp[Inj.blk, hle3.some u]
      obtain⟨_, r3, e2, _⟩ := mm z.rel f hl3;obtain⟨m1, m2⟩ := eD z.rel f hl3 e2 st jump;refine⟨_, by rw[<- hbl3]; exact run_endRound jump e2, β3, rfl, trivial, ?_, ?_⟩
      · rw[<- hst3]; exact m1
      · rw[<- hst3]; exact(hext1.trans z.ext).trans m2
    revert h g
    cases rec ⟨q.n, q.fn, some l⟩ q.body T1 (H1.J8 l q1 .busy q1.pend) with
    | fail => intro h; cases h
    | nrm T3 Q =>
      intro h g;obtain⟨β3, w3, a3, z, s3⟩ := g;replace h := D h;obtain⟨q3, f, h⟩ := h;cases h;obtain⟨w4, f1, f2⟩ := fin β3 Q w3 T3 a3 q3 .ready none z f rfl
      exact⟨.bool true, w4, f2, s1.trans (s2.trans (s3.trans (.one (stepR_round_end rfl rfl f1))))⟩
    | ex id T3 Q =>
      intro h g;obtain⟨β3, w3, a3, k, z, hx, s3⟩ := g;replace h := D h;obtain⟨q3, f, h⟩ := h;cases h;obtain⟨w4, f1, f2⟩ := fin β3 Q w3 T3 a3 q3 .done (some (.exit id)) z f rfl
      exact⟨.bool false, w4, f2, s1.trans (s2.trans (s3.trans (.one (stepR_round_exit rfl rfl hx f1))))⟩
    | ret T3 Q =>
      intro h g;obtain⟨β3, w3, a3, k, z, s3⟩ := g;replace h := D h;obtain⟨q3, f, h⟩ := h;cases h;obtain⟨w4, f1, f2⟩ := fin β3 Q w3 T3 a3 q3 .done (some .ret) z f rfl;exact⟨.bool false, w4, f2, s1.trans (s2.trans (s3.trans (.one (stepR_round_ret rfl rfl f1))))⟩
end
end
section
variable[Unk]
def vR{b β:Type}(f:b->β):∀(p:Pa) (t:M b),Yq p (YQ f t)=(Yq p t).map f:=by
 intro p
 induction p with
 | e=>intro t;cases t with
  | nil=>rfl
  | node l v r=>cases v<;>rfl
 | o p a=>intro t;cases t with
  | nil=>rfl
  | node l v r=>exact a l
 | i p a=>intro t;cases t with
  | nil=>rfl
  | node l v r=>exact a r
def Jr{a β:Type}(f:a->β)(t:M a)(i:Nat):(YQ f t).get i=(t.get i).map f:=vR f _ _
def sh(N d id:Nat):Nat:=if id<N then id else d+(id-N)
def Zt{a:Type}(N d id:Nat)(f:Nat->a):Zg N d id f=f (sh N d id):=by
 unfold Zg sh;rw[zo,zW];by_cases h:id<N
 .simp[h]
 .simp[h]
def Zo(β γ:Inj)(N d:Nat):Inj:=λid=>if id<d then β id else γ (id-d+N)
def M7{γ:Inj}{N d:Nat}(hN:N<=d)(hlow:∀id,id<N->∀x,γ id=some x->β id=some x){id:Nat}(h:γ id=some x):Zo β γ N d (sh N d id)=some x:=by
 unfold Zo sh;by_cases hi:id<N
 .rw[Y hi,Y I];exact hlow id hi x h
 .rw[O hi,O I];have:d+(id-N)-d+N=id:=by omega
  rw[this];exact h
section
variable{β γ:Inj}{N d:Nat}(hN:N<=d)(hlow:∀id,id<N->∀x,γ id=some x->β id=some x)
include hN hlow
theorem kC{id:Nat}(h:(γ id).isSome):Zo β γ N d (sh N d id)=γ id:=by
 obtain⟨x,hx⟩:=LM.1 h;rw[M7 hN hlow hx,hx]
mutual
theorem Yp:∀v,WF γ v->WF (Zo β γ N d) (shV N d v)/\J (Zo β γ N d) (shV N d v)=J γ v
 | .bool _,_=>⟨trivial,rfl⟩
 | .int _ _,_=>⟨trivial,rfl⟩
 | .str _,w=>⟨w,rfl⟩
 | .nilp,_=>⟨trivial,rfl⟩
 | .ptr b o,w=>by
  have e:shV N d (.ptr b o) = .ptr (sh N d b) o:=Zt _ _ _ _;have m:=kC hN hlow (show(γ b).isSome from w);rw[e]
  exact⟨by simp only[WF];rw[m];exact w,by simp[J,Inj.addr,Inj.blk,Inj.sh,m]⟩
 | .nilslice,_=>⟨trivial,rfl⟩
 | .slice b o l c x,w=>by
  have e:shV N d (.slice b o l c x) = .slice (sh N d b) o l c x:=Zt _ _ _ _;have m:=kC hN hlow (show(γ b).isSome from w.1);rw[e]
  exact⟨⟨by rw[m];exact w.1,w.2⟩,by simp[J,Inj.addr,Inj.blk,Inj.sh,Inj.ext,m]⟩
 | .nilmap,_=>⟨trivial,rfl⟩
 | .map r,w=>by
  have e:shV N d (.map r) = .map (sh N d r):=Zt _ _ _ _;have m:=kC hN hlow (show(γ r).isSome from w);rw[e]
  exact⟨by simp only[WF];rw[m];exact w,by simp[J,Inj.blk,m]⟩
 | .fn f l m,w=>by
  obtain⟨g,a⟩:=Uc l w.1;obtain⟨z,y⟩:=Uc m w.2
  exact⟨⟨g,z⟩,by show Value.func _ _ _=_;rw[a,y];rfl⟩
 | .yieldf l,w=>by
  have e:shV N d (.yieldf l) = .yieldf (sh N d l):=Zt _ _ _ _;have m:=kC hN hlow (show(γ l).isSome from w);rw[e]
  exact⟨by simp only[WF];rw[m];exact w,by simp[J,Inj.blk,m]⟩
 | .capv b c,w=>by
  have e:shV N d (.capv b c) = .capv (sh N d b) c:=Zt _ _ _ _;have m:=kC hN hlow (show(γ b).isSome from w);rw[e]
  exact⟨by simp only[WF];rw[m];exact w,by simp[J,Inj.ext,m]⟩
 | .nilfn,_=>⟨trivial,rfl⟩
 | .iface t v,w=>by
  obtain⟨g,a⟩:=Yp v w;have e:shV N d (.iface t v) = .iface t (shV N d v):=rfl;rw[e]
  exact⟨g,by simp[J,a]⟩
 | .niliface,_=>⟨trivial,rfl⟩
 | .agg l,w=>by
  obtain⟨g,a⟩:=Uc l w
  exact⟨g,by show Value.agg _=_;rw[a];rfl⟩
 | .tuple l,w=>by
  obtain⟨g,a⟩:=Uc l w
  exact⟨g,by show Value.tuple _=_;rw[a];rfl⟩
 | .sym i,w=>by
  have e:shV N d (.sym i) = .sym (sh N d i):=Zt _ _ _ _;have m:=kC hN hlow (show(γ i).isSome from w);rw[e]
  exact⟨by simp only[WF];rw[m];exact w,by simp[J,m]⟩
 | .esl b o q,w=>by
  have e:shV N d (.esl b o q) = .esl (sh N d b) o q:=Zt _ _ _ _;have m:=kC hN hlow (show(γ b).isSome from w);rw[e];have h:(Zo β γ N d).ext (sh N d b)=γ.ext b:=by simp[Inj.ext,m]
  have k:∀o,(Zo β γ N d).addr (sh N d b) o=γ.addr b o:=λo=>by simp[Inj.addr,Inj.blk,Inj.sh,m]
  exact⟨by simp only[WF];rw[m];exact w,by simp only[J,h,k]⟩
 | .osl b v,w=>by
  obtain⟨j,w2,s,u,p⟩:=w;have e:shV N d (.osl b v) = .osl (sh N d b) (shV N d v):=Zt _ _ _ _;have m:=kC hN hlow j;obtain⟨g,a⟩:=Yp v w2;rw[e];have h:(Zo β γ N d).ext (sh N d b)=γ.ext b:=by simp[Inj.ext,m]
  have k:∀o,(Zo β γ N d).addr (sh N d b) o=γ.addr b o:=λo=>by simp[Inj.addr,Inj.blk,Inj.sh,m]
  exact⟨⟨by rw[m];exact j,g,s,by rw[a];exact u,by rw[h];exact p⟩,by simp only[J,h,k,a]⟩
 | .psl b o q c x,w=>by
  obtain⟨j,w2,n,u,p⟩:=w;have e:shV N d (.psl b o q c x) = .psl (sh N d b) o (sh N d q) c x:=(Zt _ _ _ _).trans (Zt _ _ _ _);have m:=kC hN hlow j;have m2:=kC hN hlow w2;rw[e];have h:(Zo β γ N d).ext (sh N d b)=γ.ext b:=by simp[Inj.ext,m]
  have k:∀o,(Zo β γ N d).addr (sh N d b) o=γ.addr b o:=λo=>by simp[Inj.addr,Inj.blk,Inj.sh,m]
  exact⟨⟨by rw[m];exact j,by rw[m2];exact w2,n,by rw[m2];exact u,p⟩,by simp only[J,h,k,m2]⟩
theorem Uc:∀l,WFs γ l->WFs (Zo β γ N d) (@G.rec_1 (λ_=>G) (λ_=>List G)
  (λb=>.bool b) (λk n=>.int k n) (λs=>.str s) .nilp (λb o=>Zg N d b λm=>.ptr m o) .nilslice (λb o l c x=>Zg N d b λm=>.slice m o l c x) .nilmap (λr=>Zg N d r λm=>.map m)
  (λf _ _ l m=>.fn f l m) (λl=>Zg N d l λm=>.yieldf m) (λb c=>Zg N d b λm=>.capv m c) .nilfn (λt _ v=>.iface t v) .niliface (λ_ l=>.agg l) (λ_ l=>.tuple l) (λi=>Zg N d i λm=>.sym m) (λb o q=>Zg N d b λm=>.esl m o q) (λb _ v=>Zg N d b λm=>.osl m v) (λb o q c x=>Zg N d b λm=>Zg N d q λp=>.psl m o p c x)
  [] (λ_ _ a l=>a::l) l)/\K (Zo β γ N d) (@G.rec_1 (λ_=>G) (λ_=>List G)
  (λb=>.bool b) (λk n=>.int k n) (λs=>.str s) .nilp (λb o=>Zg N d b λm=>.ptr m o) .nilslice (λb o l c x=>Zg N d b λm=>.slice m o l c x) .nilmap (λr=>Zg N d r λm=>.map m)
  (λf _ _ l m=>.fn f l m) (λl=>Zg N d l λm=>.yieldf m) (λb c=>Zg N d b λm=>.capv m c) .nilfn (λt _ v=>.iface t v) .niliface (λ_ l=>.agg l) (λ_ l=>.tuple l) (λi=>Zg N d i λm=>.sym m) (λb o q=>Zg N d b λm=>.esl m o q) (λb _ v=>Zg N d b λm=>.osl m v) (λb o q c x=>Zg N d b λm=>Zg N d q λp=>.psl m o p c x)
  [] (λ_ _ a l=>a::l) l)=K γ l
 | [],_=>by
  have _:=hN;have _:=hlow
  exact⟨trivial,rfl⟩
 | v::l,w=>by
  obtain⟨j,h⟩:=Yp v w.1;obtain⟨g,e⟩:=Uc l w.2;exact⟨⟨j,g⟩,by show J _ (shV N d v)::K _ _=_;rw[h,e];rfl⟩
end
theorem zcX{b:X}{x:Ej}(hl:(yC b).isNone=true)(h:zO P γ b x w):zO P (Zo β γ N d) (shB N d b) x w:=by
 cases b with
 | cells t n c=>
  obtain⟨arr,fz,h1,h2⟩:=h;refine⟨arr,fz,h1,h2.size,λi v hv=>?_,h2.thaw,h2.al⟩;rw[Jr]at hv;obtain⟨u,l,rfl⟩:=LU.1 hv;obtain⟨k,j⟩:=h2.cell i u l;obtain⟨r,m⟩:=Yp hN hlow u k
  exact⟨r,by rw[m];exact j⟩
 | map es clock=>
  obtain⟨arr,h1,h2,h3⟩:=h;refine⟨arr,h1,?_,?_⟩
  .rw[h2,jI,LZ];refine Ab λe he=>?_;obtain⟨k,j,y⟩:=h3 e he;show QW γ e=QW _ (e.1,shV N d e.2.1,e.2.2);simp only[QW];rw[(Yp hN hlow _ k).2,(YS (β':=Zo β γ N d) y j).2]
  .intro e he;rw[jI]at he;obtain⟨u,l,rfl⟩:=Lv.1 he;obtain⟨k,j⟩:=h3 u l
   exact⟨(Yp hN hlow _ k).1,(YS j.2 j.1).1,j.2⟩
 | loop a b c e f g h i=>cases hl
 | siter s p=>exact h
 | text t v=>
  obtain⟨arr,fz,h1,h2⟩:=h;obtain⟨k,j⟩:=Yp hN hlow v h2.wf
  exact⟨arr,fz,h1,k,by rw[j];exact h2.is,h2.size,by rw[j];exact h2.cell,h2.thaw,h2.one⟩
 | ints t v=>
  obtain⟨arr,fz,h1,h2⟩:=h;obtain⟨k,j⟩:=Yp hN hlow v h2.wf
  exact⟨arr,fz,h1,k,by rw[j];exact h2.is,h2.size,by rw[j];exact h2.cell,h2.thaw,h2.one⟩
 | view c=>
  obtain⟨arr,t,fz,h1,h2⟩:=h;refine⟨arr,t,fz,h1,λi v hv=>?_⟩;have hv:(YQ (shV N d) c).get i=some v:=hv;rw[Jr]at hv;obtain⟨u,l,rfl⟩:=LU.1 hv;obtain⟨r,m⟩:=h2 i u l;obtain⟨k,j⟩:=Yp hN hlow u r
  exact⟨k,by rw[j];exact m⟩
 | pack t n N=>
  obtain⟨arr,fz,h1,h2⟩:=h;exact⟨arr,fz,h1,h2.bytes⟩
end
def sy(N d:Nat):∀(rows:List (Nat×X)) (t:M X) (id:Nat) (b:X),(Ji N d rows t).get id=some b->t.get id=some b\/∃p∈rows,id=sh N d p.1/\b=shB N d p.2:=by
 intro rows
 induction rows with
 | nil=>intro t id b h;exact .inl h
 | cons p rows a=>
  intro t id b h;have e:Ji N d (p::rows) t=Ji N d rows (t.set (sh N d p.1) (shB N d p.2)):=Zt _ _ _ _;rw[e]at h;rcases a _ _ _ h with h|⟨q,hq,h1,h2⟩
  .rw[M.zN]at h;by_cases hi:sh N d p.1=id
   .rw[Y hi]at h;cases h;exact .inr ⟨p,LG,hi.symm,rfl⟩
   .rw[O hi]at h;exact .inl h
  .exact .inr ⟨q,LP _ hq,h1,h2⟩
def Wa(N d:Nat):∀(rows:List (Nat×X)) (t:M X) (id:Nat),id<d->(∀p∈rows,N<=p.1)->(Ji N d rows t).get id=t.get id:=by
 intro rows
 induction rows with
 | nil=>intro t id _ _;rfl
 | cons p rows a=>
  intro t id h hp;have e:Ji N d (p::rows) t=Ji N d rows (t.set (sh N d p.1) (shB N d p.2)):=Zt _ _ _ _;rw[e,a _ _ h λq hq=>hp q (LP _ hq),M.zN,O];have:=hp p LG;unfold sh;rw[O I];omega
def Ic{γ:Inj}{w2:Ea}(hR:Rel P β H w){N:Nat}{rows:List (Nat×X)}{r:G}(h:Ie H N n rows r=some (v,H'))
  (hrows:∀p∈rows,N<=p.1/\p.1<N+n/\(yC p.2).isNone=true) (hg:Grown w w2) (hr:WF γ r) (hm:Made P β N n rows γ w w2):RR P β H w v H' (J γ r) w2:=by
 obtain⟨h1,h⟩:=zh h;rw[zK,Lk]at h1;cases h;obtain⟨v1,v2⟩:=Yp h1 hm.low r hr;have hold:∀id,id<H.next->Zo β γ N H.next id=β id:=λid hid=>by unfold Zo;rw[Y hid]
 have a:∀id,H.next<=id->Zo β γ N H.next id=γ (id-H.next+N):=λid hid=>by unfold Zo;rw[O I]
 have f:∀id b,(Ji N H.next rows H.blk).get id=some b->(id<H.next/\H.blk.get id=some b)\/(∃p∈rows,id=H.next+(p.1-N)/\b=shB N H.next p.2):=by
  intro id b hb;rcases sy N H.next rows H.blk id b hb with hb|⟨p,hp,T,Q⟩
  .exact .inl ⟨hR.live _ _ hb,hb⟩
  .refine .inr ⟨p,hp,?_,Q⟩;rw[T];have:=(hrows p hp).1;unfold sh;rw[O I]
 have hid:∀p∈rows,H.next+(p.1-N)-H.next+N=p.1:=λp hp=>by have:=(hrows p hp).1;omega
 have hle:β.le (Zo β γ N H.next):=λid x hx=>by rw[hold id (hR.bnd _ _ hx)];exact hx
 have g:∀id b x,H.blk.get id=some b->β id=some x->x.1<w.heap.size:=λid b x l m=>(hR.blk id b x l m).lt;refine⟨Zo β γ N H.next,v2.symm,v1,⟨Lj hR.base (Al _ _),?_,?_,?_,?_⟩,⟨hold,Al _ _,?_,?_,?_,?_,λc hc _=>hg.old c hc,hg.size,hg.tape,hg.os,hg.output⟩⟩
 .intro id b x hb hx;rcases f id b hb with⟨l,m⟩|⟨p,hp,rfl,rfl⟩
  .rw[hold id l]at hx;exact((hR.blk id b x m hx).Jl hg.old).mono hle
  .rw[a _ (Al _ _),hid p hp]at hx;exact zcX h1 hm.low (hrows p hp).2.2 (hm.blk p hp x hx)
 .intro i j b c x y hb hx hc k e;rcases f i b hb with⟨l,m⟩|⟨p,hp,rfl,rfl⟩<;>rcases f j c hc with⟨z,u⟩|⟨q,hq,rfl,rfl⟩
  .rw[hold i l]at hx;rw[hold j z]at k;exact hR.inj i j b c x y m hx u k e
  .rw[hold i l]at hx;rw[a _ (Al _ _),hid q hq]at k;have:=g i b x m hx;have:=hm.new _ _ (hrows q hq).1 k;omega
  .rw[hold j z]at k;rw[a _ (Al _ _),hid p hp]at hx;have:=g j c y u k;have:=hm.new _ _ (hrows p hp).1 hx;omega
  .rw[a _ (Al _ _),hid p hp]at hx;rw[a _ (Al _ _),hid q hq]at k;exact .inl (by rw[hm.inj p hp q hq x y hx k e])
 .intro id x hx;show id<H.next+n;by_cases hi:id<H.next
  .omega
  .rw[a id I]at hx;rcases LD (id-H.next+N) (N+n) with hl|t
   .omega
   .rw[hm.high _ t]at hx;cases hx
 .intro id b hb;show id<H.next+n;rcases f id b hb with⟨l,_⟩|⟨p,hp,rfl,_⟩
  .omega
  .have:=(hrows p hp).2.1;have:=(hrows p hp).1;omega
 .intro id hi _;exact Wa N H.next rows H.blk id hi λp hp=>(hrows p hp).1
 .intro id b hi hb;have hb:(Ji N H.next rows H.blk).get id=some b:=hb;rw[Wa N H.next rows H.blk id hi λp hp=>(hrows p hp).1]at hb;exact⟨b,hb⟩
 .intro id hi;have:=hR.base;exact Wa N H.next rows H.blk id I λp hp=>(hrows p hp).1
 .intro id x hi hx;rw[a id hi]at hx;exact .inl (hm.new _ _ (Nat.le_add_left _ _) hx)
def Rel.rest{Hi l:Heap}(hR:Rel P β H w)(hn:Hi.next=H.next)(a:∀id b,Hi.blk.get id=some b->H.blk.get id=some b)
  (hR':Rel P β' l w') (hX:Ext β Hi w β' l w') (hn':H'.next=l.next) (hout:∀id,id<H.next->Hi.blk.get id=none->H'.blk.get id=H.blk.get id)
  (hin:∀id b,id<H.next->Hi.blk.get id=some b->H'.blk.get id=l.blk.get id) (hnew:∀id b,H.next<=id->H'.blk.get id=some b->l.blk.get id=some b) :
  Rel P β' H' w'/\Ext β H w β' H' w':=by
 have t:H.next<=l.next:=by rw[<- hn];exact hX.next
 have hle:β.le β':=λid x hx=>by rw[hX.old id (by rw[hn];exact hR.bnd _ _ hx)];exact hx
 have f:∀c,Range β Hi c->Range β H c:=λc ⟨i,b,x,h1,h2,h3⟩=>⟨i,b,x,h1,a _ _ h2,h3⟩
 have split:∀id b,H'.blk.get id=some b->(id<H.next/\Hi.blk.get id=none/\H.blk.get id=some b)\/(l.blk.get id=some b/\(id<H.next->∃b',Hi.blk.get id=some b')):=by
  intro id b hb;by_cases hid:id<H.next
  .cases hh:Hi.blk.get id with
   | none=>exact .inl ⟨hid,rfl,by rw[<- hout id hid hh];exact hb⟩
   | some b'=>exact .inr ⟨by rw[<- hin id b' hid hh];exact hb,λ_=>⟨b',rfl⟩⟩
  .exact .inr ⟨hnew id b I hb,λh=>Ld h hid⟩
 have old:∀id x,id<H.next->β' id=some x->β id=some x:=λid x hid hx=>by rw[<- hX.old id (by rw[hn];exact hid)];exact hx
 have apart:∀id b x,Hi.blk.get id=none->H.blk.get id=some b->β id=some x->¬Range β Hi x.1:=by
  intro id b x h1 h2 h3 ⟨i,b',y,h0,z,h5,h6⟩;obtain rfl:=hR.QV (.inl h0) (a _ _ z) h5 h2 h3 h6;rw[h1]at z;cases z
 have mixed:∀id b x j c y,id<H.next->Hi.blk.get id=none->H.blk.get id=some b->β' id=some x->l.blk.get j=some c->(j<H.next->∃b',Hi.blk.get j=some b')->β' j=some y->x.1=y.1->id<100/\j<100:=by
  intro id b x j c y h1 h2 h3 z h5 h6 h7 e;have m:=old id x h1 z;by_cases hj:j<H.next
  .obtain⟨b',k⟩:=h6 hj;rcases hR.inj _ _ _ _ _ _ h3 m (a _ _ k) (old j y hj h7) e with this|this
   .subst this;rw[h2]at k;cases k
   .exact this
  .rcases hX.new j y (by rw[hn];omega) h7 with h8|h8
   .have:=(hR.blk id b x h3 m).lt;omega
   .exact Ld (by rw[e];exact h8) (apart id b x h2 h3 m)
 refine⟨⟨by rw[hn'];exact Lj hR.base t,?_,?_,λid x hx=>by rw[hn'];exact hR'.bnd id x hx,?_⟩,⟨λid hid=>hX.old id (by rw[hn];exact hid),by rw[hn'];exact t,?_,?_,?_,?_,?_,hX.size,hX.tape,hX.os,hX.output⟩⟩
 .intro id b x hb hx;rcases split id b hb with⟨g,p,n⟩|⟨g,_⟩
  .have r:=old id x g hx;have v:=hR.blk id b x n r;exact(v.mono hle).heap (hX.frame _ v.lt (apart id b x p n r))
  .exact hR'.blk id b x g hx
 .intro i j b c x y hb hx hc T e;rcases split i b hb with⟨g,p,n⟩|⟨g,p⟩<;>rcases split j c hc with⟨Q,b2,b3⟩|⟨Q,b2⟩
  .exact hR.inj i j b c x y n (old i x g hx) b3 (old j y Q T) e
  .exact .inr (mixed i b x j c y g p n hx Q b2 T e)
  .exact .inr (mixed j c y i b x Q b2 b3 T g p hx e.symm).symm
  .exact hR'.inj i j b c x y g hx Q T e
 .intro id b hb;rw[hn'];rcases split id b hb with⟨g,_,_⟩|⟨g,_⟩
  .omega
  .exact hR'.live id b g
 .intro id hid hb
  cases hh:Hi.blk.get id with
  | none=>exact hout id hid hh
  | some b'=>rw[hin id b' hid hh,hX.apart id (by rw[hn];exact hid) hb,hh,a _ _ hh]
 .intro id b hid hb;rcases split id b hb with⟨_,_,n⟩|⟨_,p⟩
  .exact⟨b,n⟩
  .obtain⟨b',k⟩:=p hid;exact⟨b',a _ _ k⟩
 .intro id hid;have u:id<H.next:=LK hid hR.base
  cases hh:Hi.blk.get id with
  | none=>exact hout id u hh
  | some b'=>rw[hin id b' u hh,hX.ro id hid,hh,a _ _ hh]
 .intro id x hid hx;rcases hX.new id x (by rw[hn];exact hid) hx with h|h
  .exact .inl h
  .exact .inr (f _ h)
 .intro c hc hr;exact hX.frame c hc λh=>hr (f _ h)
def Rel.part{Hi:Heap}(hR:Rel P β H w)(hn:Hi.next=H.next)(a:∀id b,Hi.blk.get id=some b->H.blk.get id=some b):Rel P β Hi w where
 base:=by rw[hn];exact hR.base
 blk:=λid b x h1 h2=>hR.blk id b x (a _ _ h1) h2
 inj:=λi j b c x y h1 h2 h3 f e=>hR.inj i j b c x y (a _ _ h1) h2 (a _ _ h3) f e
 bnd:=λid x h=>by rw[hn];exact hR.bnd id x h
 live:=λid b h=>by rw[hn];exact hR.live id b (a _ _ h)
def Kg{t:M X}:∀ {l:List (Nat×X)},dF t l=true->∀p∈l,t.get p.1=some p.2
 | [],_,p,hp=>by cases hp
 | q::l,h,p,hp=>by
  have h:L (Z (t.get q.1) false λb=>Q0 b q.2) (dF t l)=true:=h;rw[zl,Le]at h;rcases Lf.1 hp with rfl|hp
  .cases a:t.get p.1 with
   | none=>rw[a]at h;exact Ld h.1 Oc
   | some b=>rw[a]at h;rw[QZ h.1]
  .exact Kg h.2 p hp
def Nq{g:Eu}{q:G×Heap}{f:Fact}(h:CI g as H f=some q) :
  ∃rin rout n,f = .memo g as H.next rin rout q.1 n/\q.2=ZV H rin rout n/\∀p∈rin,H.blk.get p.1=some p.2:=by
 cases f
 case memo h' bs nx rin rout r n=>
  obtain⟨h1,h⟩:=zh h;simp only[zl,Le,zA,Ll]at h1;obtain⟨e,a,c,b⟩:=h1;have a:=j5 _ _ a;cases h;subst e;subst a;subst c;exact⟨rin,rout,n,rfl,rfl,Kg b⟩
 all_goals cases h
def xZ{E:Env}(hF:zJ E β)(hR:Rel E.P β H w){a p:G}(h:dQ E H a p=true)(ha:WF β a):Sa β w p (J β a):=by
 unfold dQ at h;unfold Sa
 cases hp:Q2 p with
 | none=>
  rw[hp,zn]at h;obtain rfl:=zV _ _ h
  exact⟨ha,rfl⟩
 | some q=>
  rw[hp,ze,zo]at h;split at h
  case isFalse=>cases h
  rename_i hs
  cases f:Xf E H a with
  | none=>rw[f]at h;cases h
  | some v=>
   rw[f,ze]at h;have hv:=zV _ _ h
   suffices key:WF β v/\∃s b o cap,J β v = .string s/\J β a = .slice (some ⟨b,o,none⟩) s.size cap/\s.size<=cap/\∀i (c:UInt8),s.data[i]?=some c->w.cell? ⟨b,o+i,none⟩=some (.int .u8 c.toNat) by
    rw[hv]at key;exact key
   clear hv h;unfold Xf at f
   cases n:Q2 a with
   | some r=>
    rw[n,ze]at f;obtain rfl:=JX n;obtain⟨b,hb,f⟩:=D f;obtain⟨t,m,f⟩:=D f;obtain⟨y,f⟩:=zh f;cases f;have y:=zV _ _ y;obtain rfl:=Vt m;obtain⟨T,w2,s,k,Q⟩:=ha;obtain⟨arr,fz,a1,a2⟩:=hR.vl hb T
    exact⟨w2,s,β.blk r.1,β.sh r.1,β.ext r.1,k,by simp[J,k,sOf,Inj.addr],Q,λi c hc=>by
     rw[cell_of a1]
     exact a2.cell i c (by rw[y,k];exact hc)⟩
   | none=>
    rw[n,zn]at hs f
    cases g:yp a with
    | none=>rw[g]at hs;cases hs
    | some e=>
     rw[g,ze]at f;obtain rfl:=kc g;have hle:e.len<=(if e.ex then e.cap else e.cap+β.ext e.b):=by have:=ha.2;split<;>omega
     rcases lz hF f with⟨z,rfl⟩|⟨cs,hl,key⟩
     .exact⟨by simp[WF],.empty,β.blk e.b,β.sh e.b+e.off,(if e.ex then e.cap else e.cap+β.ext e.b),rfl,by simp only[J,Inj.addr,z];rfl,by rw[z]at hle;exact hle,λi c hc=>by simp at hc⟩
     .obtain⟨u,k1,k2,k3⟩:=key;obtain⟨r,j,hl⟩:=D hl;obtain⟨g1,g2⟩:=M.jZ _ _ _ _ hl
      have hlen:u.size=e.len:=by
       have:=congrArg List.length k3;rw[zC,Ls,Ls,g1]at this;exact this.symm
      refine⟨k1,u,β.blk e.b,β.sh e.b+e.off,(if e.ex then e.cap else e.cap+β.ext e.b),k2,by simp only[J,Inj.addr,hlen],by rw[hlen];exact hle,λi c hc=>?_⟩;have hi:=(LO.1 hc).1;have hi:i<u.size:=hi;have h1:=congrArg (λl:List Value=>l[i]?) k3;simp only[zC,Lw,LV,hc,Ac]at h1
      cases hx:cs[i]? with
      | none=>rw[hx]at h1;cases h1
      | some x=>
       rw[hx]at h1;have h1:J β x = .int .u8 c.toNat:=Aa h1;have h2:=(hR.cell j ha.1 (by rw[g2 i I];exact hx)).1;rw[h1]at h2;rw[<- h2,Inj.addr,AU]
def gZ{E:Env}{β:Inj}(hF:zJ E β){H:Heap}{w:Ea}(hR:Rel E.P β H w):∀ {l m:List G},dP E H l m=true->WFs β l->Bt β w m (K β l)
 | [],[],_,_=>trivial
 | [],_::_,h,_=>by cases h
 | _::_,[],h,_=>by cases h
 | a::l,p::m,h,hw=>by
  have h:L (dQ E H a p) (dP E H l m)=true:=h;rw[zl,Le]at h;exact⟨xZ hF hR h.1 hw.1,gZ hF hR h.2 hw.2⟩
def Nn{E:Env}{g:Eu}{r:G}{f:Fact}(h:CF E g as H f=some r):∃bs,f = .read g bs r/\dP E H as bs=true:=by
 cases f
 case read h' bs r'=>
  obtain⟨h1,h⟩:=zh h;rw[zl,Le,zA,Ll]at h1;cases h;exact⟨bs,by rw[h1.1],h1.2⟩
 all_goals cases h
end
section
variable[Unk]
def zbQ(v:G):List G:=match v with|.agg l=>l|_=>[]
def X8(b:Ek):∀l,jX b (.agg l) = .agg (X7 b l)
 | []=>rfl
 | a::l=>by
  show G.agg (jX b a::zbQ (jX b (.agg l)))=_;rw[X8 b l];rfl
def vN(a:Ek)(l:List G):jX a (.tuple l) = .tuple (X7 a l):=by
 show G.tuple (zbQ (jX a (.agg l)))=_;rw[X8];rfl
def SN(a:Ek)(f:Eu)(l m:List G):jX a (.fn f l m) = .fn f (X7 a l) (X7 a m):=by
 show G.fn f (zbQ (jX a (.agg l))) (zbQ (jX a (.agg m)))=_;rw[X8,X8];rfl
def under(β:Inj)(ρ:Ek):Inj:=λi=>β (ρ i)
mutual
def ya(d:Inj)(a:Ek):∀v,J d (jX a v)=J (under d a) v/\(WF d (jX a v)↔WF (under d a) v)
 | .bool _=>⟨rfl,Iff.rfl⟩
 | .int _ _=>⟨rfl,Iff.rfl⟩
 | .str _=>⟨rfl,Iff.rfl⟩
 | .nilp=>⟨rfl,Iff.rfl⟩
 | .ptr b o=>by
  have e:jX a (.ptr b o) = .ptr (a b) o:=qg _ _
  rw[e];exact⟨rfl,Iff.rfl⟩
 | .nilslice=>⟨rfl,Iff.rfl⟩
 | .slice b o l c x=>by
  have e:jX a (.slice b o l c x) = .slice (a b) o l c x:=qg _ _
  rw[e];exact⟨rfl,Iff.rfl⟩
 | .nilmap=>⟨rfl,Iff.rfl⟩
 | .map r=>by
  have e:jX a (.map r) = .map (a r):=qg _ _
  rw[e];exact⟨rfl,Iff.rfl⟩
 | .fn f l m=>by
  obtain⟨g,h⟩:=JH d a l;obtain⟨k,j⟩:=JH d a m;have e:=SN a f l m;rw[e]
  exact⟨by simp only[J,g,k],by simp only[WF,h,j]⟩
 | .yieldf l=>by
  have e:jX a (.yieldf l) = .yieldf (a l):=qg _ _
  rw[e];exact⟨rfl,Iff.rfl⟩
 | .capv b c=>by
  have e:jX a (.capv b c) = .capv (a b) c:=qg _ _
  rw[e];exact⟨rfl,Iff.rfl⟩
 | .nilfn=>⟨rfl,Iff.rfl⟩
 | .iface t v=>by
  obtain⟨g,h⟩:=ya d a v;have e:jX a (.iface t v) = .iface t (jX a v):=rfl;rw[e]
  exact⟨by simp only[J,g],h⟩
 | .niliface=>⟨rfl,Iff.rfl⟩
 | .agg l=>by
  obtain⟨g,h⟩:=JH d a l;have e:=X8 a l;rw[e]
  exact⟨by simp only[J,g],h⟩
 | .tuple l=>by
  obtain⟨g,h⟩:=JH d a l;have e:=vN a l;rw[e]
  exact⟨by simp only[J,g],h⟩
 | .sym i=>by
  have e:jX a (.sym i) = .sym (a i):=qg _ _
  rw[e];exact⟨rfl,Iff.rfl⟩
 | .esl b o q=>by
  have e:jX a (.esl b o q) = .esl (a b) o q:=qg _ _
  rw[e];exact⟨rfl,Iff.rfl⟩
 | .osl b v=>by
  obtain⟨g,h⟩:=ya d a v;have e:jX a (.osl b v) = .osl (a b) (jX a v):=qg _ _;rw[e];refine⟨by simp only[J,g];rfl,?_⟩;simp only[WF,g,h]
  exact Iff.rfl
 | .psl b o q c x=>by
  have e:jX a (.psl b o q c x) = .psl (a b) o (a q) c x:=(qg _ _).trans (qg _ _);rw[e];exact⟨rfl,Iff.rfl⟩
def JH(b:Inj)(a:Ek):∀l,K b (X7 a l)=K (under b a) l/\(WFs b (X7 a l)↔WFs (under b a) l)
 | []=>⟨rfl,Iff.rfl⟩
 | v::l=>by
  obtain⟨g,f⟩:=ya b a v;obtain⟨d,c⟩:=JH b a l;have e:X7 a (v::l)=jX a v::X7 a l:=rfl;rw[e];exact⟨by simp only[K,g,d],by simp only[WFs,f,c]⟩
end
def Ci{k:Inj}{d:Ek}{b:X}(hl:(yC b).isNone=true):zO P k (sn d b) x w↔zO P (under k d) b x w:=by
 cases b with
 | cells t n c=>
  constructor
  .rintro⟨arr,fz,h1,h2⟩
   refine⟨arr,fz,h1,h2.size,λi v hv=>?_,h2.thaw,h2.al⟩;obtain⟨j,l⟩:=h2.cell i (jX d v) (by rw[Jr,hv];rfl);exact⟨(ya k d v).2.1 j,by rw[<- (ya k d v).1];exact l⟩
  .rintro⟨arr,fz,h1,h2⟩
   refine⟨arr,fz,h1,h2.size,λi v hv=>?_,h2.thaw,h2.al⟩;rw[Jr]at hv;obtain⟨u,r,rfl⟩:=LU.1 hv;obtain⟨j,l⟩:=h2.cell i u r
   exact⟨(ya k d u).2.2 j,by rw[(ya k d u).1];exact l⟩
 | map es clock=>
  have key:∀e:G×G×Nat,WF (under k d) e.1->cy e.1=true->QW (under k d) e=QW k (e.1,jX d e.2.1,e.2.2):=λe l m=>by
   simp only[QW];rw[(ya k d _).1,(YS (β':=k) m l).2]
  constructor
  .rintro⟨arr,h1,h2,h3⟩
   have y:∀e∈es,WF (under k d) e.2.1/\WF (under k d) e.1/\cy e.1=true:=λe he=>by
    obtain⟨j,l,m⟩:=h3 (e.1,jX d e.2.1,e.2.2) (by rw[jI];exact Lv.2 ⟨e,he,rfl⟩);exact⟨(ya k d _).2.1 j,(YS m l).1,m⟩
   refine⟨arr,h1,?_,y⟩;rw[h2,jI,LZ];exact Ab λe he=>(key e (y e he).2.1 (y e he).2.2).symm
  .rintro⟨arr,h1,h2,h3⟩
   refine⟨arr,h1,?_,?_⟩
   .rw[h2,jI,LZ];exact Ab λe he=>key e (h3 e he).2.1 (h3 e he).2.2
   .intro e he;rw[jI]at he;obtain⟨u,r,rfl⟩:=Lv.1 he;obtain⟨j,l,m⟩:=h3 u r
    exact⟨(ya k d _).2.2 j,(YS m l).1,m⟩
 | loop a b c e f g h i=>cases hl
 | siter s p=>exact Iff.rfl
 | text t v=>
  obtain⟨j,l⟩:=ya k d v;constructor
  .rintro⟨arr,fz,h1,h2⟩
   exact⟨arr,fz,h1,l.1 h2.wf,by rw[<- j];exact h2.is,h2.size,by rw[<- j];exact h2.cell,h2.thaw,h2.one⟩
  .rintro⟨arr,fz,h1,h2⟩
   exact⟨arr,fz,h1,l.2 h2.wf,by rw[j];exact h2.is,h2.size,by rw[j];exact h2.cell,h2.thaw,h2.one⟩
 | ints t v=>
  obtain⟨j,l⟩:=ya k d v;constructor
  .rintro⟨arr,fz,h1,h2⟩
   exact⟨arr,fz,h1,l.1 h2.wf,by rw[<- j];exact h2.is,h2.size,by rw[<- j];exact h2.cell,h2.thaw,h2.one⟩
  .rintro⟨arr,fz,h1,h2⟩
   exact⟨arr,fz,h1,l.2 h2.wf,by rw[j];exact h2.is,h2.size,by rw[j];exact h2.cell,h2.thaw,h2.one⟩
 | view c=>
  constructor
  .rintro⟨arr,t,fz,h1,h2⟩
   refine⟨arr,t,fz,h1,λi v hv=>?_⟩;have h3:=h2 i (jX d v) (by show(YQ (jX d) c).get i=_;rw[Jr,hv];rfl);obtain⟨j,l⟩:=ya k d v;exact⟨l.1 h3.1,by rw[<- j];exact h3.2⟩
  .rintro⟨arr,t,fz,h1,h2⟩
   refine⟨arr,t,fz,h1,λi v hv=>?_⟩;have hv:(YQ (jX d) c).get i=some v:=hv;rw[Jr]at hv;obtain⟨u,r,rfl⟩:=LU.1 hv;obtain⟨j,l⟩:=ya k d u;obtain⟨H,z⟩:=h2 i u r
   exact⟨l.2 H,by rw[j];exact z⟩
 | pack t n N=>
  constructor
  .rintro⟨arr,fz,h1,h2⟩
   exact⟨arr,fz,h1,h2.bytes⟩
  .rintro⟨arr,fz,h1,h2⟩
   exact⟨arr,fz,h1,h2.bytes⟩
def kB:∀(l:List (Nat×X)) (t:M X) (id:Nat) (b:X),(qf l t).get id=some b->(id,b)∈l\/((∀p∈l,p.1≠id)/\t.get id=some b)
 | [],t,id,b,h=>.inr ⟨Oc,h⟩
 | p::l,t,id,b,h=>by
  have h:((qf l t).set p.1 p.2).get id=some b:=h;rw[M.zN]at h;by_cases hp:p.1=id
  .rw[Y hp]at h;cases h;subst hp;exact .inl LG
  .rw[O hp]at h;rcases kB l t id b h with h|⟨h1,h2⟩
   .exact .inl (LP _ h)
   .refine .inr ⟨λq hq=>?_,h2⟩;rcases Lf.1 hq with rfl|hq
    .exact hp
    .exact h1 q hq
def Qv:∀(l:List (Nat×X)) (t:M X) (id:Nat),(∀p∈l,p.1≠id)->(qf l t).get id=t.get id
 | [],_,_,_=>rfl
 | p::l,t,id,h=>by
  show((qf l t).set p.1 p.2).get id=_;rw[M.zN,O (h p LG)];exact Qv l t id λq hq=>h q (LP _ hq)
def aG:∀(l:List (Nat×X)) (t:M X) (p:Nat×X),p∈l->∃b,(qf l t).get p.1=some b
 | q::l,t,p,h=>by
  have e:(qf (q::l) t).get p.1=((qf l t).set q.1 q.2).get p.1:=rfl;rw[e,M.zN];by_cases hp:q.1=p.1
  .exact⟨_,Y hp⟩
  .rw[O hp];rcases Lf.1 h with rfl|h
   .exact Ld rfl hp
   .exact aG l t p h
def XB:∀(l:List (Nat×X)) (t:M X) (id:Nat),(∀p∈l,p.1≠id)->(Yy l t).get id=t.get id
 | [],_,_,_=>rfl
 | p::l,t,id,h=>by
  show((Yy l t).del p.1).get id=_;rw[M.jv,O (h p LG)];exact XB l t id λq hq=>h q (LP _ hq)
def Vp:∀(l:List (Nat×X)) (t:M X) (p:Nat×X),p∈l->(Yy l t).get p.1=none
 | q::l,t,p,h=>by
  show((Yy l t).del q.1).get p.1=_;rw[M.jv];by_cases hp:q.1=p.1
  .exact Y hp
  .rw[O hp];rcases Lf.1 h with rfl|h
   .exact Ld rfl hp
   .exact Vp l t p h
def wV{c x:Bool}(h:ifB c x false=true):c=true/\x=true:=by
 cases c with
 | true=>exact⟨rfl,h⟩
 | false=>cases h
def Uo{f:Ek}(h:wB v=true):jX f v=v:=by
 cases v<;>first|rfl|cases h
def mf{f:Ek}:∀ {t:M G},sU t=true->YQ (jX f) t=t:=by
 intro t
 induction t with
 | nil=>intro _;rfl
 | node l v r c b=>
  intro h;have h:ifB (Z v true wB) (ifB (sU l) (sU r) false) false=true:=h;obtain⟨h1,h⟩:=wV h;obtain⟨h2,h3⟩:=wV h;have e:YQ (jX f) (.node l v r) = .node (YQ (jX f) l) (Z v none λa=>some (jX f a)) (YQ (jX f) r):=rfl;rw[e,c h2,b h3]
  cases v with
  | none=>rfl
  | some a=>rw[ze,Uo h1]
def mg{f:Ek}:∀ {es:ag},MY es=true->mapA (λe=>(e.1,jX f e.2.1,e.2.2)) es=es
 | [],_=>rfl
 | e::es,h=>by
  have h:ifB (wB e.2.1) (MY es) false=true:=h;obtain⟨h1,h2⟩:=wV h;have a:mapA (λe:G×G×Nat=>(e.1,jX f e.2.1,e.2.2)) (e::es)=(e.1,jX f e.2.1,e.2.2)::mapA (λe=>(e.1,jX f e.2.1,e.2.2)) es:=rfl;rw[a,mg h2,Uo h1]
def Ch(a:Ek)(b:X):Mc a b=sn a b:=by
 unfold Mc;rw[zo];split
 .rename_i h
  cases b with
  | cells t n c=>exact congrArg (X.cells t n) (mf h).symm
  | map es k=>
   exact congrArg (X.map · k) (mg h).symm
  | loop=>rfl
  | siter=>rfl
  | text t v=>exact congrArg (X.text t) (Uo h).symm
  | pack=>rfl
  | ints t v=>exact congrArg (X.ints t) (Uo h).symm
  | view c=>exact congrArg X.view (mf h).symm
 .rfl
def Wb(a:Ek)(p:Nat×X)(l:List (Nat×X))(t:M X):Wc a (p::l) t=(Wc a l t).set (a p.1) (sn a p.2):=by
 rw[<- Ch];exact qg _ _
def VY(a:Ek):∀(l:List (Nat×X)) (t:M X) (id:Nat) (b:X),(Wc a l t).get id=some b->(∃p∈l,id=a p.1/\b=sn a p.2)\/((∀p∈l,a p.1≠id)/\t.get id=some b)
 | [],t,id,b,h=>.inr ⟨Oc,h⟩
 | p::l,t,id,b,h=>by
  have e:=Wb a p l t;rw[e,M.zN]at h;by_cases hp:a p.1=id
  .rw[Y hp]at h;cases h;exact .inl ⟨p,LG,hp.symm,rfl⟩
  .rw[O hp]at h;rcases VY a l t id b h with⟨q,hq,h1,h2⟩|⟨h1,h2⟩
   .exact .inl ⟨q,LP _ hq,h1,h2⟩
   .refine .inr ⟨λq hq=>?_,h2⟩;rcases Lf.1 hq with rfl|hq
    .exact hp
    .exact h1 q hq
def lO(a:Ek):∀(l:List (Nat×X)) (t:M X) (p:Nat×X),p∈l->∃b,(Wc a l t).get (a p.1)=some b
 | q::l,t,p,h=>by
  have e:=Wb a q l t;rw[e,M.zN];by_cases hp:a q.1=a p.1
  .exact⟨_,Y hp⟩
  .rw[O hp];rcases Lf.1 h with rfl|h
   .exact Ld rfl hp
   .exact lO a l t p h
def VX(a:Ek):∀(l:List (Nat×X)) (t:M X) (id:Nat),(∀p∈l,a p.1≠id)->(Wc a l t).get id=t.get id
 | [],_,_,_=>rfl
 | p::l,t,id,h=>by
  have e:=Wb a p l t;rw[e,M.zN,O (h p LG)];exact VX a l t id λq hq=>h q (LP _ hq)
def XA(a:Ek):∀(l:List (Nat×X)) (t:M X) (id:Nat),(∀p∈l,a p.1≠id)->(Yx a l t).get id=t.get id
 | [],_,_,_=>rfl
 | p::l,t,id,h=>by
  have e:Yx a (p::l) t=(Yx a l t).del (a p.1):=qg _ _;rw[e,M.jv,O (h p LG)];exact XA a l t id λq hq=>h q (LP _ hq)
def mO(a:Ek):∀(l:List (Nat×X)) (t:M X) (p:Nat×X),p∈l->(Yx a l t).get (a p.1)=none
 | q::l,t,p,h=>by
  have e:Yx a (q::l) t=(Yx a l t).del (a q.1):=qg _ _;rw[e,M.jv];by_cases hp:a q.1=a p.1
  .exact Y hp
  .rw[O hp];rcases Lf.1 h with rfl|h
   .exact Ld rfl hp
   .exact mO a l t p h
def wJ{tabs:List (Nat×X)}{β0 k:Inj}{args:List G}{rin rout:List (Nat×X)}{r:G}
  (hM:yW P tabs β0 f args nx rin rout r n) (hle:β0.le k) {H:Heap}{w:Ea} (hR:Rel P k H w) (hat:∀g,g<100->k g=some (Unk.place g))
  (htabs:∀p∈tabs,p.1<100/\H.blk.get p.1=some p.2) (htab:∀p∈tabs,RN P p.2/\(jj tabs).get p.1=some p.2)
  {ρ:Ek}{N:Nat} (h60:100<=N) (hN:N<=nx) (hlow:∀id,N<=id->β0 id=none) (r1:∀id,id<N->ρ id=id) (r2:∀id,id<nx->ρ id<H.next) (r3:∀id,nx<=id->ρ id=H.next+(id-nx))
  (hrin:∀p∈rin,N<=p.1/\p.1<nx/\100<=ρ p.1/\(yC p.2).isNone=true/\H.blk.get (ρ p.1)=some (sn ρ p.2)) (r4:∀p∈rin,∀q∈rin,ρ p.1=ρ q.1->p.1=q.1)
  (hself:∀p∈rin,(qf rin (jj tabs)).get p.1=some p.2) (hrout:∀p∈rout,N<=p.1/\(yC p.2).isNone=true) (hself2:∀t,∀p∈rout,(qf rout t).get p.1=some p.2) (hargs:WFs k (X7 ρ args)) :
  Calls P f (K k (X7 ρ args)).toArray w λe w2=>∃γ,e = .returned (J γ (jX ρ r))/\WF γ (jX ρ r)/\Rel P γ (dt ρ H rin rout (H.next+(n-nx))) w2/\Ext k H w γ (dt ρ H rin rout (H.next+(n-nx))) w2:=by
 have h1:∀id,nx<=id->under k ρ id=none:=λid hid=>by
  cases hx:under k ρ id with
  | none=>rfl
  | some x=>have:=hR.bnd _ _ hx;rw[r3 id hid]at this;omega
 have T:∀id,id<100->ρ id=id:=λid hid=>r1 id I
 have u:∀id b,(qf rin (jj tabs)).get id=some b->(∃p∈rin,p.1=id/\p.2=b)\/(id<100/\RN P b/\H.blk.get id=some b):=by
  intro id b hb;rcases kB rin _ id b hb with hm|⟨_,hm⟩
  .exact .inl ⟨_,hm,rfl,rfl⟩
  .have hm':=kK _ _ _ hm;exact .inr ⟨(htabs _ hm').1,(htab _ hm').1,(htabs _ hm').2⟩
 let H1:Heap:=⟨qf rin (jj tabs),nx⟩
 have hH:∀id b,H1.blk.get id=some b->∃c,H.blk.get (ρ id)=some c:=by
  intro id b hb;rcases u id b hb with⟨p,hp,rfl,rfl⟩|⟨h2,_,h3⟩
  .exact⟨_,(hrin p hp).2.2.2.2⟩
  .rw[T id h2];exact⟨_,h3⟩
 have hat1:∀g,g<100->under k ρ g=some (Unk.place g):=λg hg=>by unfold under;rw[T g hg];exact hat g hg
 have hinjρ:∀i j b c,H1.blk.get i=some b->H1.blk.get j=some c->ρ i=ρ j->i=j:=by
  intro i j b c hb hc e;rcases u i b hb with⟨p,hp,rfl,rfl⟩|⟨h2,_,_⟩<;>rcases u j c hc with⟨q,hq,rfl,rfl⟩|⟨h3,_,_⟩
  .exact r4 p hp q hq e
  .rw[T j h3]at e;have:=(hrin p hp).2.2.1;omega
  .rw[T i h2]at e;have:=(hrin q hq).2.2.1;omega
  .rwa[T i h2,T j h3]at e
 have hR1:Rel P (under k ρ) H1 w:=by
  refine⟨Lj h60 hN,?_,?_,?_,?_⟩
  .intro id b x hb hx;rcases u id b hb with⟨p,hp,rfl,rfl⟩|⟨h2,h3,h4⟩
   .exact(Ci (hrin p hp).2.2.2.1).1 (hR.blk _ _ x (hrin p hp).2.2.2.2 hx)
   .have hx':k id=some x:=by rw[<- T id h2];exact hx
    exact h3 _ _ _ _ hat hat1 (hR.blk id b x h4 hx')
  .intro i j b c x y hb hx hc hy e;obtain⟨b',Q⟩:=hH i b hb;obtain⟨c',hc'⟩:=hH j c hc;rcases hR.inj _ _ _ _ _ _ Q hx hc' hy e with h|⟨h,h'⟩
   .exact .inl (hinjρ i j b c hb hc h)
   .refine .inr ⟨?_,?_⟩
    .rcases u i b hb with⟨p,hp,rfl,rfl⟩|⟨h2,_,_⟩
     .have:=(hrin p hp).2.2.1;omega
     .exact h2
    .rcases u j c hc with⟨p,hp,rfl,rfl⟩|⟨h2,_,_⟩
     .have:=(hrin p hp).2.2.1;omega
     .exact h2
  .intro id x hx;show id<nx;rcases LD id nx with h|h
   .exact h
   .rw[h1 id h]at hx;cases hx
  .intro id b hb;show id<nx;rcases u id b hb with⟨p,hp,rfl,rfl⟩|⟨h2,_,_⟩
   .exact(hrin p hp).2.1
   .omega
 have hle1:β0.le (under k ρ):=λid x hx=>by
  have:id<N:=by
   rcases LD id N with h|h
   .exact h
   .rw[hlow id h]at hx;cases hx
  unfold under;rw[r1 id this];exact hle id x hx
 have htabs1:∀p∈tabs,p.1<100/\H1.blk.get p.1=some p.2:=λp hp=>by
  refine⟨(htabs p hp).1,?_⟩;show(qf rin (jj tabs)).get p.1=_;rw[Qv rin _ _ λq hq e=>by have:=(hrin q hq).1;have:=(htabs p hp).1;omega];exact(htab p hp).2
 have hcall:=hM (under k ρ) H1 w hle1 hR1 hat1 htabs1 rfl hself ((JH k ρ args).2.1 hargs);rw[<- (JH k ρ args).1]at hcall;refine hcall.mono λe w2 hx=>?_;obtain⟨γ,rfl,a1,a2,a3⟩:=hx;have hnn:nx<=n:=a3.next;let γ':Inj:=λid=>if id<H.next then k id else γ (id-H.next+nx)
 have v:∀id,id<H.next->γ' id=k id:=λid h=>Y h;have hge:∀id,H.next<=id->γ' id=γ (id-H.next+nx):=λid h=>O I
 have hpull:under γ' ρ=γ:=by
  funext id
  rcases LD id nx with h|h
  .show γ' (ρ id)=γ id;rw[v _ (r2 id h),a3.old id h];rfl
  .show γ' (ρ id)=γ id;rw[r3 id h,hge _ (Al _ _)];congr 1
   omega
 have hv:=ya γ' ρ r;rw[hpull]at hv;have hleγ:k.le γ':=λid x hx=>by rw[v id (hR.bnd _ _ hx)];exact hx
 have hrange:∀c,Range (under k ρ) H1 c->Range k H c:=by
  rintro c ⟨id,b,x,g1,g2,g3,rfl⟩
  rcases u id b g2 with⟨p,hp,rfl,rfl⟩|⟨h2,_,_⟩
  .exact⟨ρ p.1,_,x,(hrin p hp).2.2.1,(hrin p hp).2.2.2.2,g3,rfl⟩
  .omega
 have a:∀p∈rout,(ZV H1 rin rout n).blk.get p.1=some p.2:=λp hp=>hself2 _ p hp
 have hgetn:∀id,(∀p∈rout,p.1≠id)->(∃p∈rin,p.1=id)->(ZV H1 rin rout n).blk.get id=none:=by
  rintro id h ⟨p,hp,rfl⟩
  show(qf rout (Yy rin H1.blk)).get p.1=none;rw[Qv rout _ _ h,Vp rin _ p hp]
 have hold:∀p∈rout,p.1<nx->∃q∈rin,q.1=p.1:=by
  intro p hp hlt';obtain⟨b',Q⟩:=a3.gone p.1 p.2 hlt' (a p hp);rcases u p.1 b' Q with⟨q,hq,h2,_⟩|⟨h2,_,_⟩
  .exact⟨q,hq,h2⟩
  .have:=(hrout p hp).1;omega
 have hinj2:∀p∈rout,∀q∈rout,ρ p.1=ρ q.1->p.1=q.1:=by
  intro p hp q hq e;rcases LD p.1 nx with m|m<;>rcases LD q.1 nx with hq'|hq'
  .obtain⟨p2,m1,m2⟩:=hold p hp m;obtain⟨q2,n1,n2⟩:=hold q hq hq';rw[<- m2,<- n2]at e ⊢;exact r4 _ m1 _ n1 e
  .have:=r2 _ m;have:=r3 _ hq';omega
  .have:=r2 _ hq';have:=r3 _ m;omega
  .have:=r3 _ hq';have:=r3 _ m;omega
 let H2:Heap:=dt ρ H rin rout (H.next+(n-nx))
 have l:∀id b,H2.blk.get id=some b->(∃p∈rout,id=ρ p.1/\b=sn ρ p.2)\/((∀p∈rout,ρ p.1≠id)/\(∀p∈rin,ρ p.1≠id)/\H.blk.get id=some b):=by
  intro id b hb;rcases VY ρ rout _ id b hb with h|⟨h,Q⟩
  .exact .inl h
  .by_cases hm:∃p∈rin,ρ p.1=id
   .obtain⟨p,hp,rfl⟩:=hm;rw[mO ρ rin _ p hp]at Q;cases Q
   .have hm:∀p∈rin,ρ p.1≠id:=λp hp e=>hm ⟨p,hp,e⟩;rw[XA ρ rin _ id hm]at Q;exact .inr ⟨h,hm,Q⟩
 have hγp:∀p,γ' (ρ p)=γ p:=λp=>congrFun hpull p
 have hnotR:∀id b x,H.blk.get id=some b->k id=some x->(∀p∈rin,ρ p.1≠id)->¬Range (under k ρ) H1 x.1:=by
  rintro id b x hb hx z ⟨i,c,y,g1,g2,g3,g4⟩
  rcases u i c g2 with⟨p,hp,rfl,rfl⟩|⟨h2,_,_⟩
  .exact z p hp (hR.QV (.inl (hrin p hp).2.2.1) (hrin p hp).2.2.2.2 g3 hb hx g4)
  .omega
 have hcross:∀p∈rout,∀j c x y,γ p.1=some x->H.blk.get j=some c->k j=some y->(∀q∈rin,ρ q.1≠j)->x.1≠y.1:=by
  intro p hp j c x y hx hc hy z e;rcases LD p.1 nx with m|m
  .obtain⟨q,hq,d⟩:=hold p hp m;have hx':k (ρ p.1)=some x:=by rw[<- v _ (r2 _ m),hγp];exact hx
   rw[<- d]at hx';exact z q hq (hR.QV (.inl (hrin q hq).2.2.1) (hrin q hq).2.2.2.2 hx' hc hy e)
  .rcases a3.new p.1 x m hx with h|h
   .have:=(hR.blk j c y hc hy).lt;omega
   .rw[e]at h;exact hnotR j c y hc hy z h
 refine⟨γ',by rw[hv.1],hv.2.2 a1,⟨?_,?_,?_,?_,?_⟩,⟨?_,?_,?_,?_,?_,?_,?_,a3.size,a3.tape,a3.os,a3.output⟩⟩
 .show 100<=H.next+(n-nx);have:=hR.base;omega
 .intro id b x hb hx;rcases l id b hb with⟨p,hp,rfl,rfl⟩|⟨_,h3,h4⟩
  .rw[hγp]at hx;refine(Ci (hrout p hp).2).2 ?_;rw[hpull];exact a2.blk p.1 p.2 x (a p hp) hx
  .have hid:=hR.live _ _ h4;rw[v id hid]at hx;have hb0:=hR.blk id b x h4 hx;exact(hb0.heap (a3.frame x.1 hb0.lt (hnotR id b x h4 hx h3))).mono hleγ
 .intro i j b c x y hb hx hc hy e;rcases l i b hb with⟨p,hp,rfl,rfl⟩|⟨_,g3,g4⟩<;>rcases l j c hc with⟨q,hq,rfl,rfl⟩|⟨_,k3,k4⟩
  .rw[hγp]at hx hy;exact .inl (by rw[a2.QV (.inl (Lj h60 (hrout p hp).1)) (a p hp) hx (a q hq) hy e])
  .rw[hγp]at hx;rw[v j (hR.live _ _ k4)]at hy;exact Ld e (hcross p hp j c x y hx k4 hy k3)
  .rw[hγp]at hy;rw[v i (hR.live _ _ g4)]at hx;exact Ld e.symm (hcross q hq i b y x hy g4 hx g3)
  .rw[v i (hR.live _ _ g4)]at hx;rw[v j (hR.live _ _ k4)]at hy;exact hR.inj i j b c x y g4 hx k4 hy e
 .intro id x hx;show id<H.next+(n-nx);rcases LD id H.next with h|h
  .omega
  .rw[hge id h]at hx;have:id-H.next+nx<n:=a2.bnd _ _ hx;omega
 .intro id b hb;show id<H.next+(n-nx);rcases l id b hb with⟨p,hp,rfl,_⟩|⟨_,_,h4⟩
  .have h5:p.1<n:=a2.live _ _ (a p hp);rcases LD p.1 nx with h|h
   .have:=r2 _ h;omega
   .have:=r3 _ h;omega
  .have:=hR.live _ _ h4;omega
 .exact v
 .exact Al _ _
 .intro id hid z;show(Wc ρ rout (Yx ρ rin H.blk)).get id=_;by_cases hm:∃p∈rin,ρ p.1=id
  .obtain⟨p,hp,rfl⟩:=hm;have h2:(ZV H1 rin rout n).blk.get p.1=H1.blk.get p.1:=a3.apart p.1 (hrin p hp).2.1 z;rw[show H1.blk.get p.1=some p.2 from hself p hp]at h2;by_cases hq:∃q∈rout,q.1=p.1
   .obtain⟨q,hq,d⟩:=hq;have h3:=a q hq;rw[d,h2]at h3;obtain⟨b,hb⟩:=lO ρ rout (Yx ρ rin H.blk) q hq;rw[d]at hb;rcases VY ρ rout _ _ _ hb with⟨s,hs,h4,h5⟩|⟨h4,_⟩
    .have h6:=hinj2 q hq s hs (by rw[d];exact h4);have h7:=a s hs;rw[<- h6,d,h2]at h7;rw[hb,h5,(hrin p hp).2.2.2.2];rw[<- Aa h7]
    .exact Ld (congrArg ρ d) (h4 q hq)
   .rw[hgetn p.1 (λq hq' e=>hq ⟨q,hq',e⟩) ⟨p,hp,rfl⟩]at h2;cases h2
  .have hm:∀p∈rin,ρ p.1≠id:=λp hp e=>hm ⟨p,hp,e⟩;rw[VX ρ rout _ id λp hp e=>?_,XA ρ rin _ id hm];rcases LD p.1 nx with h|h
   .obtain⟨q,hq,d⟩:=hold p hp h;exact hm q hq (by rw[d];exact e)
   .have:=r3 _ h;omega
 .intro id b hid hb;rcases l id b hb with⟨p,hp,rfl,_⟩|⟨_,_,h4⟩
  .rcases LD p.1 nx with h|h
   .obtain⟨q,hq,d⟩:=hold p hp h;rw[<- d];exact⟨_,(hrin q hq).2.2.2.2⟩
   .have:=r3 _ h;omega
  .exact⟨b,h4⟩
 .intro id hid;show(Wc ρ rout (Yx ρ rin H.blk)).get id=_;rw[VX ρ rout _ id λp hp e=>?_,XA ρ rin _ id λp hp e=>?_]
  .have:=(hrin p hp).2.2.1;omega
  .rcases LD p.1 nx with h|h
   .obtain⟨q,hq,d⟩:=hold p hp h;have:=(hrin q hq).2.2.1;rw[d]at this;omega
   .have:=r3 _ h;have:=hR.base;omega
 .intro id x hid hx;rw[hge id hid]at hx;rcases a3.new _ x (by show nx<=_;omega) hx with h|h
  .exact .inl h
  .exact .inr (hrange _ h)
 .intro c hc z;exact a3.frame c hc λh=>z (hrange c h)
def zdh{next:Nat}{id:Nat}(h:nx<=id):ren nx next l id=next+(id-nx):=by
 unfold ren;rw[zo,zK,Y (Lx h)];rfl
def lJ{next:Nat}{id:Nat}(h:id<nx):ren nx next l id=List.rec (motive:=λ_=>Nat) id (λx _ a=>ifB (L (Nat.ble x.1 id) (Nat.blt id x.2.1)) (Nat.add x.2.2 (Nat.sub id x.1)) a) l:=by
 unfold ren;rw[zo,zK,O (by simp;omega)]
def bW{N next:Nat}(h:aA N nx next (x::l)=true):(N<=x.1/\x.1<=x.2.1/\x.2.1<=nx/\x.2.2+(x.2.1-x.1)<=next)/\aA N nx next l=true:=by
 have h:L (L (Nat.ble N x.1) (L (Nat.ble x.1 x.2.1) (L (Nat.ble x.2.1 nx) (Nat.ble (Nat.add x.2.2 (Nat.sub x.2.1 x.1)) next)))) (aA N nx next l)=true:=h;simp only[zl,Le,zK,Lk]at h;exact⟨h.1,h.2⟩
def zdg{N next:Nat}:∀ {l:List (Nat×Nat×Nat)},aA N nx next l=true->N<=nx->∀id,id<N->ren nx next l id=id:=by
 intro l h hN id hid;rw[lJ I]
 induction l with
 | nil=>rfl
 | cons x l a=>
  obtain⟨h1,h2⟩:=bW h;show ifB (L (Nat.ble x.1 id) (Nat.blt id x.2.1)) _ _=_;rw[zo,zl,zK,O (by simp;omega)];exact a h2
def zdf{N next:Nat}:∀ {l:List (Nat×Nat×Nat)},aA N nx next l=true->nx<=next->∀id,id<nx->ren nx next l id<next:=by
 intro l h hN id hid;rw[lJ hid]
 induction l with
 | nil=>show id<next;omega
 | cons x l a=>
  obtain⟨h1,h2⟩:=bW h;show ifB (L (Nat.ble x.1 id) (Nat.blt id x.2.1)) (Nat.add x.2.2 (Nat.sub id x.1)) _<next
  rw[zo,zl,zK,zW];split
  .rename_i h3;simp only[Le,Lk]at h3;show x.2.2+(id-x.1)<next
   omega
  .exact a h2
def dw(n:Nat):∀l:List Nat,fw n l=true↔n∈l
 | []=>by simp[fw]
 | a::l=>by
  have e:fw n (a::l)=ifB (Nat.beq n a) true (fw n l):=rfl;rw[e,zo,zA];by_cases h:n=a
  .simp[h]
  .simp[h,dw n l]
def Ka{f:Ek}:∀ {l:List (Nat×X)}{p:Nat×X},p∈l->f p.1∈Yr f l
 | q::l,p,h=>by
  have e:Yr f (q::l)=f q.1::Yr f l:=qg _ _;rw[e];rcases Lf.1 h with rfl|h
  .exact LG
  .exact LP _ (Ka h)
def cl{f:Ek}:∀ {l:List (Nat×X)},ZS (Yr f l)=true->∀p∈l,∀q∈l,f p.1=f q.1->p.1=q.1
 | [],_,p,hp,_,_,_=>by cases hp
 | a::l,h,p,hp,q,hq,e=>by
  have d:Yr f (a::l)=f a.1::Yr f l:=qg _ _;rw[d]at h;have h:ifB (fw (f a.1) (Yr f l)) false (ZS (Yr f l))=true:=h;rw[zo]at h;split at h
  .cases h
  .rename_i hn;have hn:f a.1 ∉ Yr f l:=λhm=>hn ((dw _ _).2 hm);rcases Lf.1 hp with c|c<;>rcases Lf.1 hq with b|b
   .rw[c,b]
   .rw[c]at e;exact Ld (e ▸ Ka b) hn
   .rw[b]at e;exact Ld (e ▸ Ka c) hn
   .exact cl h p c q b e
def YL{N nx:Nat}{f:Ek}:∀ {l:List (Nat×X)},Md N nx f l=true->∀p∈l,N<=p.1/\p.1<nx/\100<=f p.1/\(yC p.2).isNone=true
 | [],_,p,hp=>by cases hp
 | a::l,h,p,hp=>by
  have h:L (L (Nat.ble N a.1) (L (Nat.blt a.1 nx) (L (Nat.ble 100 (f a.1)) (Z (yC a.2) true λ_=>false)))) (Md N nx f l)=true:=h;simp only[zl,Le,zK,zW,Lk]at h;rcases Lf.1 hp with rfl|hp
  .refine⟨h.1.1,h.1.2.1,h.1.2.2.1,?_⟩;have b:=h.1.2.2.2
   cases hl:yC p.2 with
   | none=>rfl
   | some x=>rw[hl]at b;cases b
  .exact YL h.2 p hp
def cF{f:Ek}{t:M X}:∀ {l:List (Nat×X)},oJ f t l=true->∀p∈l,t.get (f p.1)=some (sn f p.2)
 | [],_,p,hp=>by cases hp
 | a::l,h,p,hp=>by
  have h:L (frc (f a.1) λm=>Z (t.get m) false λb=>Q0 b (Mc f a.2)) (oJ f t l)=true:=h;rw[Ch]at h;rw[zl,Le,qg]at h;rcases Lf.1 hp with rfl|hp
  .have h1:=h.1
   cases c:t.get (f p.1) with
   | none=>rw[c]at h1;cases h1
   | some b=>rw[c,ze]at h1;rw[QZ h1]
  .exact cF h.2 p hp
def F2{tabs:List (Nat×X)}{a:Inj}{g:Eu}{f:Fact}(h:oo g as H f=some (v,H'))(u:zu P tabs a f)(hR:Rel P a H w)(i:∀g,g<100->a g=some (Unk.place g))
  (htabs:∀p∈tabs,p.1<100/\H.blk.get p.1=some p.2) (hargs:WFs a as) :
  Calls P g (K a as).toArray w λe w2=>∃d,e = .returned (J d v)/\WF d v/\Rel P d H' w2/\Ext a H w d H' w2:=by
 cases f with
 | memoG k N b bs nx rin rout r n=>
  have h:ifB (Nat.beq g k) (bnd (IU as H b) λl=>ifB (L (Nat.ble nx H.next) (L (Nat.ble 100 N) (Nat.ble N nx))) (Pn as bs H N nx rin rout r n l (ren nx H.next l)) none) none=some (v,H'):=h;obtain⟨j,m⟩:=zh h;rw[zA,Ll]at j;clear h;subst j;obtain⟨l,_,h⟩:=D m;clear m;obtain⟨h1,h⟩:=zh h;simp only[zl,Le,zK,Lk]at h1;obtain⟨h1,h60,hN⟩:=h1;unfold Pn at h;obtain⟨h2,h⟩:=zh h;simp only[zl,Le]at h2;obtain⟨s1,s2,s3,s4,s5⟩:=h2;rw[qg]at h;cases h;have s2:=j5 _ _ s2;subst s2;obtain⟨β0,hle,hlow,x,m1,m2,t,c⟩:=u
  exact wJ x hle hR i htabs c h60 hN hlow (zdg s1 hN) (zdf s1 h1) (λid hid=>zdh hid)
   (λp hp=>⟨(YL s3 p hp).1,(YL s3 p hp).2.1,(YL s3 p hp).2.2.1,(YL s3 p hp).2.2.2,cF s5 p hp⟩) (cl s4) (m1 _) m2 t hargs
 | _=>cases h
end
section
variable[Unk]
section
variable{E:Env}(hE:yF E)
include hE
def DI(E:Env)(rec:Rec):Prop:=
 ∀(f:Eu) (args:List G) (H H':Heap) (v:G) (β:Inj) (w:Ea),pH E (qL E rec f) args H=some (v,H')->Rel E.P β H w->YE E β H->WFs β args ->
  Res E.P (callFunc f (K β args).toArray) w (RR E.P β H w v H')
theorem Rz(hN:XK E.P)(hS:pP E){rec:Rec}(y:WR E rec)(hI:DI E rec){args:List G}(h:DE E rec f args H=some (v,H'))
  (hR:Rel E.P β H w) (hG:YE E β H) (hargs:WFs β args):Res E.P (callFunc f (K β args).toArray) w (RR E.P β H w v H'):=by
 unfold DE at h
 cases hs:E.spec.get f with
 | none=>
  rw[hs,zn]at h
  exact ZK hE hN y h hR hG hargs
 | some s=>
  rw[hs,ze]at h;have j:=hS f s hs
  cases s with
  | mapsClone=>exact j.res (iB hR h hargs)
  | indexByte=>exact j.res (iC hR h hargs)
  | makeNoZero e=>
   obtain⟨ps,t,h1,h2,h3⟩:=j
   exact h1.res (dY hE hR h hargs h2 h3)
  | same=>
   cases args with
   | nil=>cases h
   | cons a q=>
    replace h:=Jc h;obtain⟨hnil,h⟩:=h;subst hnil;cases h
    exact j.res (qk.sim ⟨rfl,hargs.1⟩ hR)
  | insert=>exact hI f args H H' v β w h hR hG hargs
  | compare=>exact j.res (rh hR h hargs)
  | count=>exact j.res (DL hR h hargs)
  | fact=>
   have h:(bnd (E.funcs.get f) λfn=>bnd fn.body λ_=>Z (findF (tf f args) E.facts) (Z (findF (td f args) E.facts) (Z (findF (CI f args H) E.facts) (Z (findF (oo f args H) E.facts) (Z (findF (CF E f args H) E.facts) (qL E rec f args H) λr=>some (r,H)) λq=>some q) λq=>some q) λq=>Ie H q.1 q.2.1 q.2.2.1 q.2.2.2) λr=>some (r,H))=some (v,H'):=h;replace h:=D h;obtain⟨fn,i,h⟩:=h;replace h:=D h;obtain⟨c,k,h⟩:=h;rw[hE.funcs]at i;have hn:fn.name ≠ "runtime.NumGoroutine" := by simpa using hN f fn i
   have b:ql E.P E.tabs w:=⟨β,hG.at_,λp hp=>hR.blk p.1 p.2 (Unk.place p.1) (hG.tabs p hp).2 (hG.at_ p.1 (hG.tabs p hp).1)⟩
   cases hc:findF (tf f args) E.facts with
   | none=>
    rw[hc,zn]at h
    cases hm:findF (td f args) E.facts with
    | none=>
     rw[hm,zn]at h
     cases hq:findF (CI f args H) E.facts with
     | none=>
      rw[hq,zn]at h
      cases z:findF (oo f args H) E.facts with
      | some q=>
       rw[z,ze]at h;cases h;obtain⟨g,u,e⟩:=qD z;refine⟨.enter f (K β args).toArray,w,by simp[callFunc,i,hn,k],?_⟩;refine(F2 e (hG.facts _ u) hR hG.at_ hG.tabs hargs).mono λx w' hx=>?_;obtain⟨γ,rfl,g1,g2,g3⟩:=hx
       exact⟨_,rfl,γ,rfl,g1,g2,g3⟩
      | none=>
      rw[z,zn]at h
      cases hd:findF (CF E f args H) E.facts with
      | none=>
       rw[hd,zn]at h
       exact ZK hE hN y h hR hG hargs
      | some r=>
       rw[hd,ze]at h;cases h;obtain⟨g,u,e⟩:=qD hd;obtain⟨bs,rfl,T⟩:=Nn e;obtain⟨h1,h2⟩:=hG.facts _ u;refine⟨.enter f (K β args).toArray,w,by simp[callFunc,i,hn,k],?_⟩;refine(h2 w _ β (λ_ _ hx=>hx) b (gZ hG.facts hR T hargs)).mono λx w' hx=>?_;obtain⟨rfl,d⟩:=hx
       exact⟨_,rfl,β,rfl,h1,hR.Um d,Ext.Um hR.bnd d⟩
     | some q=>
      rw[hq,ze]at h;cases h;obtain⟨g,u,e⟩:=qD hq;obtain⟨rin,rout,n,rfl,T,e3⟩:=Nq e;have Q:=hG.facts _ u;refine⟨.enter f (K β args).toArray,w,by simp[callFunc,i,hn,k],?_⟩;refine(Q β H w (λ_ _ hx=>hx) hR hG.at_ hG.tabs rfl e3 hargs).mono λx w' hx=>?_;obtain⟨γ,rfl,a1,a2,a3⟩:=hx;have T:H'=ZV H rin rout n:=T
      exact⟨_,rfl,γ,rfl,a1,by rw[T];exact a2,by rw[T];exact a3⟩
    | some q=>
     rw[hm,ze]at h;obtain⟨g,u,e⟩:=qD hm;obtain⟨h1,h2,h3⟩:=Nr e (hG.facts _ u);refine⟨.enter f (K β args).toArray,w,by simp[callFunc,i,hn,k],?_⟩;refine(h3 w b).mono λx w' hx=>?_;obtain⟨d,γ,rfl,hwr,hmd⟩:=hx
     exact⟨_,rfl,Ic hR h h2 d hwr hmd⟩
   | some r=>
    rw[hc,ze]at h;cases h;obtain⟨g,u,e⟩:=qD hc;obtain⟨h1,h2,h3⟩:=Nv e (hG.facts _ u);refine⟨.enter f (K β args).toArray,w,by simp[callFunc,i,hn,k],?_⟩;refine(h3 w b).mono λx w' hx=>?_;obtain⟨rfl,d⟩:=hx;exact⟨_,rfl,β,rfl,h2,hR.Um d,Ext.Um hR.bnd d⟩
omit hE in
theorem J0{l m:List G}(hl:WFs β l)(hm:WFs β m):WFs β (l++m):=by
 rw[qb]at *;intro v hv;rcases LJ.1 hv with hv|hv
 .exact hl v hv
 .exact hm v hv
omit hE in
theorem Zd(β:Inj)(l m:List G):K β (l++m)=K β l++K β m:=by simp[zC]
theorem Hs(hN:XK E.P)(b:pP E){rec:Rec}(a:WR E rec)(c:DI E rec){g:G}{args:List G}(h:Bn E rec g args H=some (v,H'))
  (hR:Rel E.P β H w) (hG:YE E β H) (hg:WF β g) (hargs:WFs β args) :
  Res E.P (do let d <- Deferred.ofValue (J β g) (K β args).toArray;invoke d.target d.args) w (RR E.P β H w v H'):=by
 cases g with
 | fn f l m=>
  have h:DE E rec f (zX l (zX args m)) H=some (v,H'):=h
  have hw:WFs β (zX l (zX args m)):=by
   rw[zZ,zZ];exact J0 hg.1 (J0 hargs hg.2)
  have h1:=Rz hE hN b a c h hR hG hw
  have e:(do let d <- Deferred.ofValue (J β (.fn f l m)) (K β args).toArray;invoke d.target d.args:Sem Next)=callFunc f (K β (zX l (zX args m))).toArray:=by
   rw[zZ,zZ,Zd,Zd];show callFunc f (((K β l).toArray++(K β args).toArray)++(K β m).toArray)=_;congr 1;simp
  rw[e]
  exact h1
 | yieldf l=>
  have h1:=Hm hE a (show xY rec l args H=some (v,H') from h) hR hG hargs hg
  have e:(do let d <- Deferred.ofValue (J β (.yieldf l)) (K β args).toArray;invoke d.target d.args:Sem Next)=Instr.yield (β.blk l) (K β args).toArray:=by
   show Instr.yield (β.blk l) (#[]++(K β args).toArray)=_;congr 1;simp
  rw[e]
  exact h1
 | _=>cases h
theorem MB(hN:XK E.P)(u:pP E){rec:Rec}(a:WR E rec)(y:DI E rec):ab E rec:=by
 intro β H w T o ρ v H' hR t i h;by_cases hc:∃c g,o.op = .call c/\c.callee = .value g
 .obtain⟨c,g,h1,h2⟩:=hc;obtain⟨dst,op,ty,pos,af,z⟩:=o;simp only at h h1 i;subst h1;obtain⟨ce,as,p⟩:=c;simp only at h2;subst h2;have h:(bnd (ev T g) λv=>bnd (evs T as.toList) λf=>Bn E rec v f H)=some (v,H'):=h;replace h:=D h;obtain⟨gv,k,h⟩:=h;replace h:=D h;obtain⟨f,j,h⟩:=h;obtain⟨g1,Q⟩:=i g (by simp[Op.operands,Call.operands]) gv k;obtain⟨a1,a2⟩:=oM (ρ:=ρ) as.toList f j (λx hx v hv=>i x (by simp[Op.operands,Call.operands];exact .inr (by simpa using hx)) v hv);have:=Hs hE hN u a y h hR t Q a2;have e:as.map ρ=(K β f).toArray:=by rw[<- a1,<- Array.toList_map]
  show Res E.P (do let d <- resolve ρ ⟨.value g,as,p⟩ ty;invoke d.target d.args) w _;simp only[resolve,e,g1];exact this
 .refine(m7 hE hR t.facts h i λc hop=>?_).res
  cases hce:c.callee with
  | builtin b=>exact⟨b,rfl⟩
  | value g=>exact Ld ⟨c,g,hop,hce⟩ hc
  | invoke r n=>
   obtain⟨dst,op,ty,pos,af,z⟩:=o;simp only at h hop;subst hop;obtain⟨ce,as,p⟩:=c;simp only at hce;subst hce;cases h
end
end
section
variable[Unk]
def Vx{l:Nat}{r:Loop}(h:w.heap[l]?=some (.loop r))(fn:Eu)(tmps:Eh)(a:Array Tmp)(assign body:Code) :
  (Instr.enterLoop fn tmps a assign body (some l)).run P w = .ok (w.heap.size,[]) (w.alloc (.loop { state:=.ready,pending:=none,fn,tmps,params:=a,assign,body,defers:=r.defers })):=by
 unfold Instr.enterLoop;simp only[Lg,run_getLoop h,Result.andThen,Ln,run_newObj];rfl
section
variable{E:Env}(hE:yF E)
include hE
theorem PE{fr:Fr}{B:Nat}{b:Frame}{a:Act}(f:N E fr B T H g w b a)(m:zdb fr H=true)(j:Array Tmp)(as k:Code) :
  ∃(L:Nat) (mark:List Deferred) (w1:Ea),(Instr.enterLoop b.fn a.tmps j as k b.roundOf).run E.P w = .ok (L,mark) w1 /\
   Rel E.P (g.put H.next (L,0,0)) ⟨H.blk.set H.next (.loop .ready none fr.fn fr.n T j as k),H.next+1⟩ w1 /\
   Ext g H w (g.put H.next (L,0,0)) ⟨H.blk.set H.next (.loop .ready none fr.fn fr.n T j as k),H.next+1⟩ w1 /\
   Marks B w1 (g.put H.next (L,0,0)) ⟨H.blk.set H.next (.loop .ready none fr.fn fr.n T j as k),H.next+1⟩ (mark++a.defers):=by
 have _:=hE;have hfr:=f.rel.fresh (Lh H.next)
 cases t:fr.ro with
 | none=>
  have hb:b.roundOf=none:=by rw[f.frame.ro,t];rfl
  let v:=push w (.deferred (some []))
  have hR0:Rel E.P g H v:=f.rel.untrack λc hc=>by
   obtain⟨i,bl,y,Q,z,rfl⟩:=hc;exact Wd w _ (f.rel.blk i bl y Q z).lt
  have hE0:Ext g H w g H v:=⟨λ_ _=>rfl,Lh _,λ_ _ _=>rfl,λ_ b _ h=>⟨b,h⟩,λ_ _=>rfl,λid x h e=>Ld (f.rel.bnd _ _ e) I,λc hc _=>Wd w _ hc,by simp[v,push],rfl,rfl,rfl⟩
  have u:v.heap.size=w.heap.size+1:=by simp[v,push]
  have d:=hR0.add (.loop .ready none fr.fn fr.n T j as k) (.loop { state:=.ready,pending:=none,fn:=b.fn,tmps:=a.tmps,params:=j,assign:=as,body:=k,defers:=w.heap.size }) 0
   ⟨a.tmps,w.heap.size,by rw[yN,f.frame.fn],f.tmp.mono (Inj.yL hfr)⟩
  rw[u]at d;obtain⟨r1,r2⟩:=d;refine⟨w.heap.size+1,[Xq w.heap.size],_,?_,r1,hE0.trans r2,?_⟩
  .rw[hb];exact run_enterLoop_outer b.fn a.tmps j as k
  .obtain⟨rs,h1,h2⟩:=f.marks.ext (hE0.trans r2);obtain⟨rs',h1',h2'⟩:=f.marks
   have hrr:rs=rs':=by
    have inj:∀(x y:Eb),x.map Xq=y.map Xq->x=y:=by
     intro x
     induction x with
     | nil=>intro y h;cases y with|nil=>rfl|cons _ _=>cases h
     | cons p x ih=>
      intro y h
      cases y with
      | nil=>cases h
      | cons q y=>
       simp only[Aw,List.cons.injEq]at h;have:p=q:=by have:=h.1;simp[Xq]at this;exact this
       rw[this,ih y h.2]
    exact inj _ _ (h1 ▸ h1' ▸ rfl)
   subst hrr;refine⟨w.heap.size::rs,by rw[h1];rfl,?_,?_⟩
   .rw[nodup_cons];refine⟨λhm=>?_,h2.nodup⟩;have:=(h2'.each _ hm).2.1;omega
   .intro r t;rcases Lf.1 t with rfl|t
    .refine⟨f.base,by show w.heap.size<(v.heap.push _).size;rw[Array.size_push,u];omega,?_,?_⟩
     .rintro⟨i,bl,y,Q,z,e3⟩
      by_cases hi:i=H.next
      .subst hi;rw[Inj.zS]at z;cases z;simp at e3
      .rw[Inj.qw _ _ hi]at z;have Q:(H.blk.set H.next (.loop .ready none fr.fn fr.n T j as k)).get i=some bl:=Q;rw[M.zN,O (λe=>hi e.symm)]at Q;have:=(f.rel.blk i bl y Q z).lt;omega
     .rw[Wd _ _ (by rw[u];omega)];exact yN _ _
    .exact h2.each r t
 | some l=>
  have hb:b.roundOf=some (g.blk l):=by rw[f.frame.ro,t];rfl
  have hl:=f.frame.mapped l t
  have hlp:∃q,H.lp l=some q:=by
   unfold zdb at m;rw[t,ze]at m
   cases hq:H.lp l with
   | none=>rw[hq]at m;cases m
   | some q=>exact⟨q,rfl⟩
  obtain⟨q,hq⟩:=hlp;obtain⟨_,r,h2,_⟩:=mm f.rel hq hl
  have d:=f.rel.add (.loop .ready none fr.fn fr.n T j as k) (.loop { state:=.ready,pending:=none,fn:=b.fn,tmps:=a.tmps,params:=j,assign:=as,body:=k,defers:=r.defers }) 0
   ⟨a.tmps,r.defers,by rw[yN,f.frame.fn],f.tmp.mono (Inj.yL hfr)⟩
  refine⟨w.heap.size,[],_,?_,d.1,d.2,f.marks.ext d.2⟩;rw[hb];exact Vx h2 b.fn a.tmps j as k
theorem th(hN : XK E.P){rec : Rec}(hRec : WR E rec) : pT E rec := by
  intro fr f ps as bo T H t w b a k cs B it hit hA;obtain rfl : it = .code (.rangeFunc f ps as bo) := by rcases hit with h|⟨d, h, _⟩; exact h; cases h
  show Out E.P fr B t H w b k cs _ (fH f ps as bo E rec fr T H);generalize g : fH f ps as bo E rec fr T H = res;by_cases i : res = .fail
  · rw[i]; trivial
  · unfold fH at g
    rw[zo] at g;split at g
    case isFalse => exact Ld g.symm i
    rename_i hro
    cases hv : ev T f with
    | none => rw[hv] at g; exact Ld g.symm i
    | some v =>
      rw[hv, ze] at g
      cases hq : zic v with
      | none => rw[hq] at g; exact Ld g.symm i
      | some q =>
        rw[hq, ze] at g;have hvq : v = .fn q.1 q.2.1 q.2.2 := by cases v <;> cases hq; rfl
        subst hvq
        cases hs : E.spec.get q.1 with
        | some s => rw[hs] at g; exact Ld g.symm i
        | none =>
          rw[hs, zn] at g;simp only[qg] at g;unfold Cn at g
          cases hb : qL E rec q.1 (zX q.2.1 (zX [.yieldf H.next] q.2.2)) ⟨H.blk.set H.next (.loop .ready none fr.fn fr.n T ps as bo), Nat.succ H.next⟩ with
          | none => rw[hb] at g; exact Ld g.symm i
          | some r =>
            obtain⟨rv, H2⟩ := r;rw[hb, ze] at g;obtain⟨e1, e2⟩ := oN hA.tmp hA.glob hv;obtain⟨L, mark, w1, he, hR1, hX1, hM1⟩ := PE hE hA hro ps as bo;have p := hX1.le hA.rel.bnd
            have hw1 : WFs (t.put H.next (L, 0, 0)) (zX q.2.1 (zX [.yieldf H.next] q.2.2)) := by
              rw[zZ, zZ];refine J0 ((WFs.mono p _ e2.1).1) (J0 ⟨by simp[WF, Inj.zS], trivial⟩ ((WFs.mono p _ e2.2).1))
            obtain⟨⟨fn, c, hf1, hf2⟩, hcall⟩ := iq hE hRec hb hR1 (hA.glob.ext hA.rel.bnd hX1) hw1;have hname : fn.name ≠ "runtime.NumGoroutine" := by simpa using hN q.1 fn hf1
            have hargs : (K (t.put H.next (L, 0, 0)) (zX q.2.1 (zX [.yieldf H.next] q.2.2))).toArray = ((K t q.2.1).toArray ++ #[.func (.yield L) #[] #[]]) ++ (K t q.2.2).toArray := by
              rw[zZ, zZ, Zd, Zd, (WFs.mono p _ e2.1).2, (WFs.mono p _ e2.2).2];simp[K, J, Inj.blk, Inj.zS]
            have hrs : (resolve a.eval (rangeCall f L) 0).run E.P w1 = .ok { target := .fn (.func q.1) (K t q.2.2).toArray, args := (K t q.2.1).toArray ++ #[.func (.yield L) #[] #[]] } w1 := by
              have em : (#[Operand.const (.func (.yield L) #[] #[])].map a.eval) = #[.func (.yield L) #[] #[]] := by simp[Act.eval]
              simp only[resolve, e1, J, Deferred.ofValue, em, Ln]
            have hiv : (invoke (.fn (.func q.1) (K t q.2.2).toArray) ((K t q.2.1).toArray ++ #[.func (.yield L) #[] #[]])).run E.P w1 =
                .ok (.enter q.1 (K (t.put H.next (L, 0, 0)) (zX q.2.1 (zX [.yieldf H.next] q.2.2))).toArray) w1 := by
              rw[hargs];simp[invoke, callFunc, hf1, hname, hf2]
            have s1 := stepR_rangeFunc (P := E.P) (b := b) (a := a) (k := k) (cs := cs) (w := w) he hrs hiv;obtain⟨e, w2, fr2, ⟨x, rfl, β2, rfl, g1, g2, g3⟩, hs2, _, hlv⟩ := hcall (b.atR { a with defers := mark ++ a.defers } (.inRangeFunc L :: k) :: cs);have s3 := step_leave_returned (c := b.atR { a with defers := mark ++ a.defers } (.inRangeFunc L :: k)) (cs := cs) hlv;rw[finish_atR_inRangeFunc] at s3
            have y : Steps E.P (lone (b.atR a (.code (.rangeFunc f ps as bo) :: k)) cs w) (lone (b.atR { a with defers := mark ++ a.defers } (.endRangeFunc L :: k)) cs w2) :=
              .head s1 (Steps.trans hs2 (.one s3))
            have hX2 := hX1.trans g3;have Q := g3.le hR1.bnd;have hl2 : (β2 H.next).isSome := by rw[Q H.next (L, 0, 0) (Inj.zS _ _ _)]; rfl
            have hbl : β2.blk H.next = L := by simp[Inj.blk, Q H.next (L, 0, 0) (Inj.zS _ _ _)]
            unfold su at g
            cases z : H2.lp H.next with
            | none => simp only[z, zn] at g; exact Ld g.symm i
            | some q2 =>
              simp only[z, ze] at g;rw[zo] at g;split at g
              · exact Ld g.symm i
              · rename_i u
                obtain⟨_, r2, h2, h3, h4, _⟩ := mm g2 z hl2
                have hst : r2.state ≠ .busy := by
                  rw[h3];intro hq;rw[hq] at u;exact u rfl
                obtain⟨k1, k2⟩ := eD g2 z hl2 h2 .exhausted r2.pending;rw[h4] at k1 k2;have hend := run_endLoop (P := E.P) h2 hst;rw[hbl] at hend;have s4 := stepR_endRangeFunc (b := b) (a := { a with defers := mark ++ a.defers }) (k := k) (cs := cs) hend
                have hw3 : w2.putObj (β2.blk H.next) (.loop { r2 with state := .exhausted, pending := q2.pend }) = w2.putObj L (.loop { r2 with state := .exhausted }) := by
                  rw[hbl, <- h4]
                rw[hw3] at k1 k2
                have l : U9 E.P t H w fr B β2 (H2.J8 H.next q2 .exhausted q2.pend) (w2.putObj L (.loop { r2 with state := .exhausted })) T { a with defers := mark ++ a.defers } :=
                  ⟨k1, hX2.trans k2, hA.tmp.mono ((hX2.trans k2).le hA.rel.bnd), (hM1.ext g3).ext k2⟩
                have m := y.trans (.one s4);generalize w2.putObj L (.loop { r2 with state := .exhausted }) = W at m l;rw[h4] at m
                cases hp : q2.pend with
                | none =>
                  rw[hp, zn] at g;rw[<- g];rw[hp] at m l
                  exact⟨β2, _, _, l, m⟩
                | some j =>
                  rw[hp, ze] at g;rw[hp] at m l;cases j <;> first|exact Ld g.symm i|skip
                  case exit id =>
                    rw[<- g];exact⟨β2, _, _, k, l, rfl, m⟩
                  case ret =>
                    rw[<- g];exact⟨β2, _, _, k, l, m⟩
end
end
end Go.AEv
