/- A verified evaluator of Go code, and its soundness (EvSd). Conditions: those of each theorem. -/
import Derived.Test.YtmlimgmmpjhifaaGreatDoorEvSc
import Derived.RangeFuncIn
import Derived.RangeFuncRecord
import Derived.Laws.Externs
import Derived.Lib.MakeNoZero
import Derived.Lib.Bytealg
set_option linter.all false
namespace Go.AEv
section
variable [Unk]
def RR (P:Program) (β:Inj) (H:Heap) (w:World) (v:zd) (H':Heap) (x:Value) (w':World):Prop:=
 ∃ β',x=zh β' v∧WF β' v∧Rel P β' H' w'∧Ext β H w β' H' w'
def Res (P:Program) (m:Sem Next) (w:World) (R:Value→World→Prop):Prop:=
 ∃ nx w1,m.run P w = .ok nx w1 ∧
  match nx with
  | .value v=>R v w1
  | .skip=>R undef w1
  | .enter f args=>Calls P f args w1 fun e w2=>∃ v,e = .returned v∧R v w2
  | .round l f tmps as bo=>∀ c cs,∃ v w2,R v w2∧Steps P (lone (Frame.round l f tmps as bo .normal) (c::cs) w1) (lone (c.finish v) cs w2)
  | _=>False
theorem cA.res {P:Program}{β:Inj}{H H':Heap}{w:World}{m:Sem Next}{v:zd} (h:cA P β H w m v H'):Res P m w (RR P β H w v H'):=by
 obtain ⟨β',w',nx,h1,h2,h3,h4,h5⟩:=h
 refine ⟨nx,w',h1,?_⟩
 rcases h2 with rfl | ⟨rfl,rfl⟩
 ·exact ⟨β',rfl,h3,h4,h5⟩
 ·exact ⟨β',by simp,h3,h4,h5⟩
theorem Comes.returned {P:Program}{m m':Machine}{v:Value} (h:Comes P m m' (.returned v)):Steps P m m':=h
theorem Res.steps {P : Program} {b : Frame} {a : Act} {ops : Array Oper} {i : Nat} {rest : List Nat} {k : List Item} {cs : List Frame} {w : World} {o : Oper} {R : Value → World → Prop}
    (ho : ops[i]? = some o) (hw : Region.wanted o (yielded ops a.tmps) = true) (hd : ∀ c, o.op ≠ .defer c) (h : Res P (execOp a.eval o) w R) :
    ∃ v w', R v w' ∧ Steps P (lone (b.atR a (.inRegion ops (i :: rest) :: k)) cs w) (lone (b.atR (a.put o.dst v) (.inRegion ops rest :: k)) cs w') := by
  obtain ⟨nx, w1, h1, h2⟩ := h
  have hg := stepGR_op (P := P) (b := b) (k := k) (cs := cs) (w := w) (rest := rest) ho hw
  rw [Oper.semAt_eq _ _ _ hd] at hg
  have hfin : ∀ v, (b.atR a (.inRegion ops (i :: rest) :: k)).finish v = b.atR (a.put o.dst v) (.inRegion ops rest :: k) := by
    intro v; rw [Frame.finish_atR, ho]; rfl
  cases nx with
  | value v =>
    refine ⟨v, w1, h2, .one (step_lone_go ?_)⟩
    rw [hg, ← hfin]; simp [stepG.apply, h1]
  | skip =>
    refine ⟨undef, w1, h2, .one (step_lone_go ?_)⟩
    rw [hg, ← hfin]; simp [stepG.apply, h1]
  | enter f args =>
    obtain ⟨e, w2, fr, ⟨v, rfl, hR⟩, hs, hfn, hl⟩ := h2 (b.atR a (.inRegion ops (i :: rest) :: k) :: cs)
    have henter : step P (lone (b.atR a (.inRegion ops (i :: rest) :: k)) cs w) =
        .next (lone (Frame.enter P f args .normal) (b.atR a (.inRegion ops (i :: rest) :: k) :: cs) w1) :=
      step_lone_go (by rw [hg]; simp [stepG.apply, h1, Frame.atR])
    refine ⟨v, w2, hR, .head henter (Steps.trans hs ?_)⟩
    rw [← hfin]
    exact .one (step_leave_returned hl)
  | round l f tmps as bo =>
    obtain ⟨v, w2, hR, hs⟩ := h2 (b.atR a (.inRegion ops (i :: rest) :: k)) cs
    have henter : step P (lone (b.atR a (.inRegion ops (i :: rest) :: k)) cs w) =
        .next (lone (Frame.round l f tmps as bo .normal) (b.atR a (.inRegion ops (i :: rest) :: k) :: cs) w1) :=
      step_lone_go (by rw [hg]; simp [stepG.apply, h1, Frame.atR])
    refine ⟨v, w2, hR, .head henter ?_⟩
    rw [← hfin]
    exact hs
  | _ => exact h2.elim
theorem jV.at_ {β:Inj}{n:Nat}{T:Tr zd}{arr:Array Value} (h:jV β n T arr) (i:Nat) (hi:WI (tv T i)=false):arr.getD i undef=zh β (tv T i):=((h.tmp i).known hi).2
theorem Ky {t:Nat}{T:Tr zd}{v:zd} (h:lQ t T=some v):tv T t=v∧WI v=false:=by
 unfold lQ at h
 unfold tv
 cases ht:T.get t with
 | none=>rw [ht]at h;cases h;exact ⟨rfl,rfl⟩
 | some u=>
  rw [ht,zg,zu]at h
  split at h
  ·cases h
  ·rename_i hn
   cases h
   exact ⟨rfl,by simpa using hn⟩
theorem eY (T:Tr zd) (d:Nat) (v:zd) (i:Nat):tv (T.set d v) i=if d=i then v else tv T i:=by
 unfold tv
 rw [Tr.zR]
 split<;>rfl
theorem jV.set {β:Inj}{n:Nat}{T:Tr zd}{arr:Array Value} (h:jV β n T arr) {d:Nat} (hd:d<n) {v:zd} (hv:WF β v):jV β n (T.set d v) (arr.setIfInBounds d (zh β v)) where
 size:=by simpa using h.size
 tmp:=fun i=>by
  rw [eY]
  have hs:=h.size
  by_cases hi:d=i
  ·subst hi
   rw [if_pos rfl]
   refine .inr ⟨hv,?_⟩
   simp [Array.getD_eq_getD_getElem?,hs,hd]
  ·rw [if_neg hi]
   have e:(arr.setIfInBounds d (zh β v)).getD i undef=arr.getD i undef:=by simp [Array.getD_eq_getD_getElem?,hi]
   rw [e]
   exact h.tmp i
theorem bF {E:Env}{β:Inj}{H:Heap}{n:Nat}{T:Tr zd}{a:Act} (h:jV β n T a.tmps) (hG:QZ E β H) {x:Operand}{v:zd} (hv:ev T x=some v):a.eval x=zh β v∧WF β v:=by
 cases x with
 | tmp t=>
  obtain ⟨e,hn⟩:=Ky (t:=t) hv
  obtain ⟨g1,g2⟩:=(h.tmp t).known (by rw [e];exact hn)
  rw [e]at g1 g2
  exact ⟨g2,g1⟩
 | const c=>exact ⟨((Qj β 5000).1 c v hv).1.symm,((Qj β 5000).1 c v hv).2⟩
 | global g=>
  have hv:ifB (Nat.blt g 60) (some (zd.ptr g 0)) none=some v:=hv
  replace hv:=zl hv
  obtain ⟨h1,hv⟩:=hv
  rw [qo,decide_eq_true_eq]at h1
  cases hv
  have hb:=hG.at_ g (by omega)
  rw [Unk.glob g h1]at hb
  refine ⟨?_,by simp [WF,hb]⟩
  simp [Act.eval,zh,Inj.addr,Inj.blk,Inj.sh,hb]
 | func f=>
  cases hv
  exact ⟨rfl,trivial,trivial⟩
theorem dq {E:Env}{β:Inj}{H:Heap}{n:Nat}{T:Tr zd}{a:Act} (h:jV β n T a.tmps) (hG:QZ E β H) (l:Array Operand):JB T β a.eval l:=
 fun _ _ _ hv=>bF h hG hv
theorem WR {T:Tr zd}{d:Tmp} (h:zt (T.get d) false Y3=false):WI (tv T d)=false∧zt (T.get d) false ZO=false:=by
 unfold tv
 cases ht:T.get d with
 | none=>exact ⟨rfl,rfl⟩
 | some v=>
  rw [ht,zg]at h
  unfold Y3 at h
  rw [zu]at h
  split at h
  ·cases h
  ·rename_i hn
   exact ⟨by simpa using hn,h⟩
theorem ib {β:Inj}{n:Nat}{T:Tr zd}{arr:Array Value} (h:jV β n T arr) (d:Tmp) (want:Bool) (hs:zt (T.get d) false Y3=false) :
  Xj T d want=((match arr[d]? with | some (.bool b)=>some b | _=>none)==some want):=by
 obtain ⟨hn,hs⟩:=WR hs
 have ha:=h.at_ d hn
 rw [Array.getD_eq_getD_getElem?]at ha
 unfold Xj
 cases ht:T.get d with
 | none=>
  rw [show tv T d=qN by unfold tv;rw [ht];rfl]at ha
  rw [zm]
  cases he:arr[d]? with
  | none=>rfl
  | some x=>
   rw [he]at ha
   have:x=undef:=by simpa using ha
   subst this
   rfl
 | some v=>
  rw [show tv T d=v by unfold tv;rw [ht];rfl]at ha
  rw [zg]
  cases hb:asBool v with
  | some b=>
   have:=yx hb
   subst this
   rw [zg]
   have:arr[d]? = some (.bool b):=by
    cases he:arr[d]? with
    | none=>rw [he]at ha;simp [zh,undef]at ha
    | some x=>rw [he]at ha;simp [zh]at ha;rw [ha]
   rw [this,QV]
   cases b<;>cases want<;>rfl
  | none=>
   rw [zm]
   cases he:arr[d]? with
   | none=>rfl
   | some x=>
    rw [he]at ha
    have ha:x=zh β v:=by simpa using ha
    subst ha
    cases v<;>first | rfl | (cases hb;done) | (rename_i i;rw [ht,zg]at hs;cases hs;done)
noncomputable def kW (ops:List Oper) (T:Tr zd) (o:Oper):Bool:=match o.guard with | none=>true | some g=>YF ops T g
theorem mo {β:Inj}{n:Nat}{T:Tr zd}{arr:Array Value} (h:jV β n T arr) (ops:Array Oper) (o:Oper) (hs:∀ g,o.guard=some g→aJ ops.toList T g=false):Region.wanted o (yielded ops arr)=kW ops.toList T o:=by
 unfold Region.wanted kW
 cases hg:o.guard with
 | none=>rfl
 | some g=>
  obtain ⟨j,want⟩:=g
  simp only [YF,kb]
  unfold yielded
  rw [Array.getElem?_toList]
  cases hj:ops[j]? with
  | none=>rfl
  | some q=>
   simp only [Option.bind_some,zg]
   cases hq:q.dst with
   | none=>rfl
   | some d=>
    simp only [Option.bind_some,zg]
    refine (ib h d want ?_).symm
    have h1:=hs _ hg
    simp only [aJ,kb]at h1
    rw [Array.getElem?_toList,hj,zg,hq,zg]at h1
    exact h1
theorem cg {n:Nat}{dst:Option Tmp}{T:Tr zd}{v:zd}{f:Tr zd→qQ}{r:qQ} (h:vp n dst T v f=r) (hr:r≠.fail) :
  (dst=none∧f T=r)∨∃ d,dst=some d∧d<n∧f (T.set d v)=r:=by
 cases dst with
 | none=>exact .inl ⟨rfl,h⟩
 | some d=>
  right
  have h:ifB (Nat.blt d n) (f (T.set d v)) .fail=r:=h
  rw [zu,qo]at h
  split at h
  ·rename_i hd
   exact ⟨d,rfl,by simpa using hd,h⟩
  ·exact absurd h.symm hr
theorem jV.put {β:Inj}{n:Nat}{T:Tr zd}{a:Act} (h:jV β n T a.tmps) {dst:Option Tmp}{v:zd} (hv:WF β v) {f:Tr zd→qQ}{r:qQ} (hr:r≠.fail) (he:vp n dst T v f=r) :
  ∃ T',f T'=r∧jV β n T' (a.put dst (zh β v)).tmps:=by
 rcases cg he hr with ⟨rfl,h1⟩ | ⟨d,rfl,hd,h1⟩
 ·exact ⟨T,h1,h⟩
 ·exact ⟨_,h1,h.set hd hv⟩
theorem put_defers (a:Act) (dst:Option Tmp) (v:Value):(a.put dst v).defers=a.defers:=by cases dst<;>rfl
end
section
theorem pZ {a b:Option zd} (h:oeq a b=true):a=b:=by
 cases a with
 | none=>cases b with
  | none=>rfl
  | some y=>cases h
 | some x=>cases b with
  | none=>cases h
  | some y=>rw [zX x y h]
theorem aE:∀ (t s:Tr zd),mq t s=true→t=s:=by
 intro t
 induction t with
 | nil=>intro s h;cases s with
  | nil=>rfl
  | node l v r=>cases h
 | node l v r ihl ihr=>
  intro s h
  cases s with
  | nil=>cases h
  | node l' v' r'=>
   have h:zH (oeq v v') (zH (mq l l') (mq r r'))=true:=h
   simp only [zB,Bool.and_eq_true]at h
   rw [pZ h.1,ihl l' h.2.1,ihr r' h.2.2]
theorem nW:∀ {a b:Xu},gE a b=true→a=b:=by
 intro a
 induction a with
 | nil=>intro b h;cases b with
  | nil=>rfl
  | cons _ _=>cases h
 | cons e a ih=>
  intro b h
  cases b with
  | nil=>cases h
  | cons d b=>
   have h:zH (zH (qs e.1 d.1) (zH (qs e.2.1 d.2.1) (Nat.beq e.2.2 d.2.2))) (gE a b)=true:=h
   simp only [zB,Bool.and_eq_true,zG,beq_iff_eq]at h
   obtain ⟨⟨h1,h2,h3⟩,h4⟩:=h
   have h1:=zX _ _ h1
   rw [ih h4]
   obtain ⟨e1,e2,e3⟩:=e
   obtain ⟨d1,d2,d3⟩:=d
   simp only at h1 h2 h3
   rw [h1,zX _ _ h2,h3]
theorem Xk {a b:zJ} (h:Yb a b=true):a=b:=by
 unfold Yb at h
 split at h
 ·simp only [zB,Bool.and_eq_true,zG,beq_iff_eq]at h
  obtain ⟨h1,h2,h3⟩:=h
  rw [h1,h2,aE _ _ h3]
 ·simp only [zB,Bool.and_eq_true,zG,beq_iff_eq]at h
  rw [h.1,h.2.1,h.2.2]
 ·simp only [zB,Bool.and_eq_true,zG,beq_iff_eq]at h
  rw [nW h.1,h.2]
 ·simp only [zB,Bool.and_eq_true,zG,beq_iff_eq]at h
  rw [h.1,zX _ _ h.2]
 ·simp only [zB,Bool.and_eq_true,zG,beq_iff_eq]at h
  rw [h.1,zX _ _ h.2]
 ·rw [aE _ _ h]
 ·cases h
theorem Wx:∀ (t:Tr zd) (q:Pa),ZX q (Je t)=zt (ZX q t) none fun _=>some tH:=by
 intro t
 induction t with
 | nil=>intro q;rw [Zw];exact Zw q
 | node l v r ihl ihr=>
  intro q
  have e:Je (.node l v r) = .node (Je l) (zt v none fun _=>some tH) (Je r):=rfl
  rw [e]
  cases q with
  | e=>rfl
  | o q=>rw [yM,yM];exact ihl q
  | i q=>rw [yN,yN];exact ihr q
theorem fK:∀ (t s:Tr zd) (q:Pa),ZX q (k6 t s)=Kl (ZX q t) (ZX q s):=by
 intro t
 induction t with
 | nil=>
  intro s q
  show ZX q (Je s)=_
  rw [Wx,Zw]
  unfold Kl
  cases ZX q s<;>rfl
 | node l v r ihl ihr=>
  intro s q
  cases s with
  | nil=>
   show ZX q (Je (.node l v r))=_
   rw [Wx,Zw]
   unfold Kl
   cases ZX q (.node l v r)<;>rfl
  | node l' v' r'=>
   have e:k6 (.node l v r) (.node l' v' r') = .node (k6 l l') (Kl v v') (k6 r r'):=rfl
   rw [e]
   cases q with
   | e=>rfl
   | o q=>rw [yM,yM,yM];exact ihl l' q
   | i q=>rw [yN,yN,yN];exact ihr r' q
theorem nO (t s:Tr zd) (i:Nat):(k6 t s).get i=Kl (t.get i) (s.get i):=fK t s (path i)
theorem ue {a b:Option zJ} (h:xH a b=true):a=b:=by
 cases a with
 | none=>cases b with
  | none=>rfl
  | some y=>cases h
 | some x=>cases b with
  | none=>cases h
  | some y=>rw [Xk (a:=x) (b:=y) h]
theorem uM:∀ (t s:Tr zJ),uN t s=true→t=s:=by
 intro t
 induction t with
 | nil=>intro s h;cases s with
  | nil=>rfl
  | node l v r=>cases h
 | node l v r ihl ihr=>
  intro s h
  cases s with
  | nil=>cases h
  | node l' v' r'=>
   have h:zH (xH v v') (zH (uN l l') (uN r r'))=true:=h
   simp only [zB,Bool.and_eq_true]at h
   rw [ue h.1,ihl l' h.2.1,ihr r' h.2.2]
theorem bw {H H':Heap} (h:heq H H'=true):H=H':=by
 unfold heq at h
 simp only [zB,Bool.and_eq_true,zG,beq_iff_eq]at h
 obtain ⟨b,n⟩:=H
 obtain ⟨b',n'⟩:=H'
 rw [show n=n' from h.1,uM b b' h.2]
section
variable [Unk]
theorem iN (t s:Tr zd) (i:Nat):WI (tv (k6 t s) i)=true∨(tv (k6 t s) i=tv t i∧tv (k6 t s) i=tv s i):=by
 unfold tv
 rw [nO]
 unfold Kl
 rw [zu]
 split
 ·rename_i h
  have:=pZ h
  exact .inr ⟨rfl,by rw [this]⟩
 ·exact .inl rfl
theorem jV.dR {β:Inj}{n:Nat}{T:Tr zd}{arr:Array Value} (h:jV β n T arr) (S:Tr zd):jV β n (k6 T S) arr where
 size:=h.size
 tmp:=fun i=>by
  rcases iN T S i with e | ⟨e,_⟩
  ·exact .inl e
  ·rw [e];exact h.tmp i
theorem jV.dQ {β:Inj}{n:Nat}{T:Tr zd}{arr:Array Value} (h:jV β n T arr) (S:Tr zd):jV β n (k6 S T) arr where
 size:=h.size
 tmp:=fun i=>by
  rcases iN S T i with e | ⟨_,e⟩
  ·exact .inl e
  ·rw [e];exact h.tmp i
end
end
section
variable [Unk]
theorem Ext.range {β β':Inj}{H H':Heap}{w w':World} (h:Ext β H w β' H' w') {c:Nat} (hr:Wm β' H' c):w.heap.size≤c∨Wm β H c:=by
 obtain ⟨i,b,y,e1,e2,rfl⟩:=hr
 by_cases hi:i<H.next
 ·obtain ⟨b',e'⟩:=h.gone i b hi e1
  exact .inr ⟨i,b',y,e',by rw [← h.old i hi];exact e2,rfl⟩
 ·exact (h.new i y (by omega) e2).imp id Range.all
theorem Ext.pM {β β':Inj}{H H':Heap}{w w':World} (h:Ext β H w β' H' w') {c:Nat} (hr:Range β' H' c):w.heap.size≤c∨Range β H c:=by
 obtain ⟨i,b,y,e0,e1,e2,rfl⟩:=hr
 by_cases hi:i<H.next
 ·obtain ⟨b',e'⟩:=h.gone i b hi e1
  exact .inr ⟨i,b',y,e0,e',by rw [← h.old i hi];exact e2,rfl⟩
 ·exact h.new i y (by omega) e2
structure vC (fr:Fr) (b:Frame) (β:Inj):Prop where
 fn:b.fn=fr.fn
 kind:b.kind = .normal
 ro:b.roundOf=fr.ro.map β.blk
 mapped:∀ l,fr.ro=some l→(β l).isSome
theorem vC.mono {fr:Fr}{b:Frame}{β β':Inj} (h:vC fr b β) (l:β.le β'):vC fr b β' where
 fn:=h.fn
 kind:=h.kind
 ro:=by
  rw [h.ro]
  cases hr:fr.ro with
  | none=>rfl
  | some x=>simp [Inj.blk,l.some (h.mapped x hr)]
 mapped:=fun x hx=>by rw [l.some (h.mapped x hx)];exact h.mapped x hx
def QJ (r:Nat):Deferred:={ target:=.collected r,args:=#[] }
structure Xt (B:Nat) (w:World) (β:Inj) (H:Heap) (rs:List Nat):Prop where
 nodup:rs.Nodup
 each:∀ r∈rs,B≤r∧r<w.heap.size∧¬ Wm β H r∧w.heap[r]? = some (.deferred (some []))
def Marks (B:Nat) (w:World) (β:Inj) (H:Heap) (D:List Deferred):Prop:=∃ rs,D=rs.map QJ∧Xt B w β H rs
theorem Xt.ext {B:Nat}{w w':World}{β β':Inj}{H H':Heap}{rs:List Nat} (h:Xt B w β H rs) (e:Ext β H w β' H' w'):Xt B w' β' H' rs where
 nodup:=h.nodup
 each:=fun r hr=>by
  obtain ⟨a1,a2,a3,a4⟩:=h.each r hr
  refine ⟨a1,Nat.lt_of_lt_of_le a2 e.size,fun hx=>?_,by rw [e.frame r a2 fun q=>a3 q.all];exact a4⟩
  rcases e.range hx with h1 | h1
  ·omega
  ·exact a3 h1
theorem Marks.ext {B:Nat}{w w':World}{β β':Inj}{H H':Heap}{D:List Deferred} (h:Marks B w β H D) (e:Ext β H w β' H' w'):Marks B w' β' H' D:=by
 obtain ⟨rs,rfl,hr⟩:=h
 exact ⟨rs,rfl,hr.ext e⟩
structure Xr (P:Program) (β:Inj) (H:Heap) (w:World) (fr:Fr) (B:Nat) (β':Inj) (H':Heap) (w':World) (T':Tr zd) (a':Act):Prop where
 rel:Rel P β' H' w'
 ext:Ext β H w β' H' w'
 tmp:jV β' fr.n T' a'.tmps
 marks:Marks B w' β' H' a'.defers
theorem Xr.before {P : Program} {β β1 β' : Inj} {H H1 H' : Heap} {w w1 w' : World} {fr : Fr} {B : Nat} {T' : Tr zd} {a' : Act} (e : Ext β H w β1 H1 w1) (h : Xr P β1 H1 w1 fr B β' H' w' T' a') :
    Xr P β H w fr B β' H' w' T' a' := ⟨h.rel, e.trans h.ext, h.tmp, h.marks⟩
def Out (P:Program) (fr:Fr) (B:Nat) (β:Inj) (H:Heap) (w:World) (b:Frame) (k:List Item) (cs:List Frame) (m:Machine):qQ→Prop
 | .fail=>True
 | .nrm T' H'=>∃ β' w' a',Xr P β H w fr B β' H' w' T' a'∧Steps P m (lone (b.atR a' k) cs w')
 | .ex id T' H'=>∃ β' w' a' k1,Xr P β H w fr B β' H' w' T' a'∧exitTo id k1=exitTo id k∧Steps P m (lone (b.atR a' (.code (.exit id)::k1)) cs w')
 | .ret T' H'=>∃ β' w' a' k1,Xr P β H w fr B β' H' w' T' a'∧Steps P m (lone (b.atR a' (.code .ret::k1)) cs w')
theorem Out.steps {P:Program}{fr:Fr}{B:Nat}{β:Inj}{H:Heap}{w:World}{b:Frame}{k:List Item}{cs:List Frame}{m m1:Machine}{r:qQ} (s:Steps P m m1) (h:Out P fr B β H w b k cs m1 r) :
  Out P fr B β H w b k cs m r:=by
 cases r with
 | fail=>trivial
 | nrm T H=>obtain ⟨β',w',a',h1,h2⟩:=h;exact ⟨β',w',a',h1,s.trans h2⟩
 | ex id T H=>obtain ⟨β',w',a',k1,h1,h0,h2⟩:=h;exact ⟨β',w',a',k1,h1,h0,s.trans h2⟩
 | ret T H=>obtain ⟨β',w',a',k1,h1,h2⟩:=h;exact ⟨β',w',a',k1,h1,s.trans h2⟩
theorem Out.before {P:Program}{fr:Fr}{B:Nat}{β β1:Inj}{H H1:Heap}{w w1:World}{b:Frame}{k:List Item}{cs:List Frame}{m:Machine}{r:qQ} (e:Ext β H w β1 H1 w1)
  (h:Out P fr B β1 H1 w1 b k cs m r):Out P fr B β H w b k cs m r:=by
 cases r with
 | fail=>trivial
 | nrm T H=>obtain ⟨β',w',a',h1,h2⟩:=h;exact ⟨β',w',a',h1.before e,h2⟩
 | ex id T H=>obtain ⟨β',w',a',k1,h1,h2⟩:=h;exact ⟨β',w',a',k1,h1.before e,h2⟩
 | ret T H=>obtain ⟨β',w',a',k1,h1,h2⟩:=h;exact ⟨β',w',a',k1,h1.before e,h2⟩
structure At (E:Env) (fr:Fr) (B:Nat) (T:Tr zd) (H:Heap) (β:Inj) (w:World) (b:Frame) (a:Act):Prop where
 rel:Rel E.P β H w
 glob:QZ E β H
 frame:vC fr b β
 tmp:jV β fr.n T a.tmps
 marks:Marks B w β H a.defers
 base:B≤w.heap.size
theorem Xr.at_ {E:Env}{β β':Inj}{H H':Heap}{w w':World}{fr:Fr}{B:Nat}{T T':Tr zd}{b:Frame}{a a':Act} (h:At E fr B T H β w b a) (p:Xr E.P β H w fr B β' H' w' T' a') :
  At E fr B T' H' β' w' b a':=
 ⟨p.rel,h.glob.ext h.rel.bnd p.ext,h.frame.mono (p.ext.le h.rel.bnd),p.tmp,p.marks,Nat.le_trans h.base p.ext.size⟩
theorem At.post {E:Env}{β:Inj}{H:Heap}{w:World}{fr:Fr}{B:Nat}{T:Tr zd}{b:Frame}{a:Act} (h:At E fr B T H β w b a):Xr E.P β H w fr B β H w T a:=
 ⟨h.rel,.refl _ _ _ h.rel.bnd,h.tmp,h.marks⟩
def Xs (E:Env) (rec:Rec):Prop:=
 ∀ (β:Inj) (H:Heap) (w:World) (T:Tr zd) (o:Oper) (ρ:Operand→Value) (v:zd) (H':Heap),Rel E.P β H w→QZ E β H→JB T β ρ o.op.operands→aop o.op E rec T H=some (v,H') →
  Res E.P (execOp ρ o) w (RR E.P β H w v H')
theorem Wi {E:Env}{rec:Rec}{T:Tr zd}{H:Heap}{o:Op}{r:zd×Heap} (h:aop o E rec T H=some r):∀ c,o≠.defer c:=by
 intro c e;subst e;cases h
section
variable {E:Env}
theorem eM {rec:Rec} (hO:Xs E rec) {fr:Fr}{B:Nat}{T:Tr zd}{H:Heap}{β:Inj}{w:World}{b:Frame}{a:Act} (hA:At E fr B T H β w b a)
  {ops:Array Oper}{i:Nat}{rest:List Nat}{k:List Item}{cs:List Frame}{o:Oper} (ho:ops[i]? = some o) (hw:Region.wanted o (yielded ops a.tmps)=true)
  {K:cB}{r:qQ} (he:aB E rec fr.n o T H K=r) (hr:r≠.fail) :
  ∃ T' H' β' w' a',K T' H'=r∧Xr E.P β H w fr B β' H' w' T' a'∧Steps E.P (lone (b.atR a (.inRegion ops (i::rest)::k)) cs w) (lone (b.atR a' (.inRegion ops rest::k)) cs w'):=by
 unfold aB at he
 cases hx:aop o.op E rec T H with
 | none=>rw [hx]at he;exact absurd he.symm hr
 | some p=>
  rw [hx,zg]at he
  obtain ⟨v,H'⟩:=p
  obtain ⟨x,w',⟨β',rfl,h1,h2,h3⟩,hs⟩:=(hO β H w T o a.eval v H' hA.rel hA.glob (dq hA.tmp hA.glob _) hx).steps (b:=b) (rest:=rest) (k:=k) (cs:=cs) ho hw (Wi hx)
  obtain ⟨T',e1,e2⟩:=jV.put (hA.tmp.mono (h3.le hA.rel.bnd)) h1 hr he
  exact ⟨T',H',β',w',_,e1,⟨h2,h3,e2,by rw [put_defers];exact hA.marks.ext h3⟩,hs⟩
theorem vt {rec:Rec} (hO:Xs E rec) {fr:Fr}{B:Nat}{T:Tr zd}{H:Heap}{β:Inj}{w:World}{b:Frame}{a:Act} (hA:At E fr B T H β w b a)
  {ops:Array Oper}{i:Nat}{rest:List Nat}{k:List Item}{cs:List Frame}{o:Oper} (ho:ops[i]? = some o)
  {K:cB}{r:qQ} (he:Vc E rec fr.n ops.toList o K T H=r) (hr:r≠.fail) :
  ∃ T' H' β' w' a',K T' H'=r∧Xr E.P β H w fr B β' H' w' T' a'∧Steps E.P (lone (b.atR a (.inRegion ops (i::rest)::k)) cs w) (lone (b.atR a' (.inRegion ops rest::k)) cs w'):=by
 have hsg:∀ g,o.guard=some g→aJ ops.toList T g=false:=by
  intro g hg
  unfold Vc at he
  rw [hg,zg,zu]at he
  split at he
  ·exact absurd he.symm hr
  ·rename_i hs;simpa using hs
 have hq:=mo hA.tmp ops o hsg
 unfold kW at hq
 unfold Vc at he
 cases hg:o.guard with
 | none=>
  rw [hg]at he hq
  exact eM hO hA ho hq he hr
 | some g=>
  rw [hg,zg,zu,if_neg (by rw [hsg g hg];decide),zu]at he
  rw [hg]at hq
  split at he
  ·rename_i hw
   exact eM hO hA ho (hq.trans hw) he hr
  ·rename_i hw
   have hw:Region.wanted o (yielded ops a.tmps)=false:=by rw [hq];simpa using hw
   have hs:=stepR_op_skip (P:=E.P) (b:=b) (a:=a) (k:=k) (cs:=cs) (w:=w) (ops:=ops) (i:=i) (rest:=rest) (by rw [ho];simpa using hw)
   rw [ho]at hs
   simp only [Option.bind_some]at hs
   obtain ⟨T',e1,e2⟩:=jV.put hA.tmp (v:=qN) (by simp) hr he
   rw [QR]at e2
   exact ⟨T',H,β,w,_,e1,⟨hA.rel,.refl _ _ _ hA.rel.bnd,e2,by rw [put_defers];exact hA.marks⟩,.one hs⟩
theorem vq {rec:Rec} (hO:Xs E rec) {fr:Fr}{B:Nat}{b:Frame}{ops:Array Oper}{k:List Item}{cs:List Frame}:∀ (m i:Nat) (T:Tr zd) (H:Heap) (β:Inj) (w:World) (a:Act),
  At E fr B T H β w b a→i+m=ops.size →
  Out E.P fr B β H w b k cs (lone (b.atR a (.inRegion ops (List.range' i m)::k)) cs w) (vr E rec fr.n ops.toList (ops.toList.drop i) T H):=by
 intro m
 induction m with
 | zero=>
  intro i T H β w a hA him
  have hd:ops.toList.drop i=[]:=List.drop_eq_nil_of_le (by simp;omega)
  rw [hd]
  exact ⟨β,w,a,hA.post,.one stepR_region_end⟩
 | succ m ih=>
  intro i T H β w a hA him
  have hi:i<ops.toList.length:=by simp;omega
  rw [List.drop_eq_getElem_cons hi,List.range'_succ]
  have ho:ops[i]? = some ops.toList[i]:=by rw [← Array.getElem?_toList];exact List.getElem?_eq_getElem hi
  generalize hr:vr E rec fr.n ops.toList (ops.toList[i]::ops.toList.drop (i+1)) T H=r
  have he:Vc E rec fr.n ops.toList ops.toList[i] (vr E rec fr.n ops.toList (ops.toList.drop (i+1))) T H=r:=hr
  by_cases hf:r = .fail
  ·rw [hf];trivial
  ·obtain ⟨T',H',β',w',a',e1,e2,e3⟩:=vt hO hA (rest:=List.range' (i+1) m) (k:=k) (cs:=cs) ho he hf
   have:=ih (i+1) T' H' β' w' a' (e2.at_ hA) (by omega)
   rw [e1]at this
   exact (this.before e2.ext).steps e3
def Cf (it:Item) (c:Code):Prop:=it = .code c∨∃ d,c = .loop d∧it = .inLoop d
def cD (E:Env) (fr:Fr) (c:Code) (run:Tr zd→Heap→qQ):Prop:=
 ∀ (T:Tr zd) (H:Heap) (β:Inj) (w:World) (b:Frame) (a:Act) (k:List Item) (cs:List Frame) (B:Nat) (it:Item),Cf it c→At E fr B T H β w b a →
  Out E.P fr B β H w b k cs (lone (b.atR a (it::k)) cs w) (run T H)
def JA (E:Env) (rec:Rec):Prop:=∀ fr c,cD E fr c (rec fr c)
def iK (E:Env) (rec:Rec):Prop:=∀ fr id ops,cD E fr (.region id ops true) (fun T H=>eO E rec fr.n ops.toList T H)
def cC (E:Env) (rec:Rec):Prop:=∀ fr f ps as bo,cD E fr (.rangeFunc f ps as bo) (fun T H=>Kk f ps as bo E rec fr T H)
theorem Out.dR {P:Program}{fr:Fr}{B:Nat}{β:Inj}{H:Heap}{w:World}{b:Frame}{k:List Item}{cs:List Frame}{m:Machine}{r:qQ} (h:Out P fr B β H w b k cs m r) (s:qQ):Out P fr B β H w b k cs m (lI r s):=by
 cases r<;>cases s<;>try trivial
 ·rename_i T1 H1 T2 H2
  show Out P fr B β H w b k cs m (ifB (heq H1 H2) (.nrm (k6 T1 T2) H1) .fail)
  rw [zu]
  split
  ·obtain ⟨β',w',a',p,s⟩:=h
   exact ⟨β',w',a',⟨p.rel,p.ext,p.tmp.dR _,p.marks⟩,s⟩
  ·trivial
 ·rename_i i T1 H1 j T2 H2
  show Out P fr B β H w b k cs m (ifB (zH (Nat.beq i j) (heq H1 H2)) (.ex i (k6 T1 T2) H1) .fail)
  rw [zu]
  split
  ·obtain ⟨β',w',a',k1,p,e,s⟩:=h
   exact ⟨β',w',a',k1,⟨p.rel,p.ext,p.tmp.dR _,p.marks⟩,e,s⟩
  ·trivial
 ·rename_i T1 H1 T2 H2
  show Out P fr B β H w b k cs m (ifB (heq H1 H2) (.ret (k6 T1 T2) H1) .fail)
  rw [zu]
  split
  ·obtain ⟨β',w',a',k1,p,s⟩:=h
   exact ⟨β',w',a',k1,⟨p.rel,p.ext,p.tmp.dR _,p.marks⟩,s⟩
  ·trivial
theorem Out.dQ {P:Program}{fr:Fr}{B:Nat}{β:Inj}{H:Heap}{w:World}{b:Frame}{k:List Item}{cs:List Frame}{m:Machine}{r:qQ} (h:Out P fr B β H w b k cs m r) (s:qQ):Out P fr B β H w b k cs m (lI s r):=by
 cases s<;>cases r<;>try trivial
 ·rename_i T1 H1 T2 H2
  show Out P fr B β H w b k cs m (ifB (heq H1 H2) (.nrm (k6 T1 T2) H1) .fail)
  rw [zu]
  split
  ·rename_i hh
   have:=bw hh
   subst this
   obtain ⟨β',w',a',p,s⟩:=h
   exact ⟨β',w',a',⟨p.rel,p.ext,p.tmp.dQ _,p.marks⟩,s⟩
  ·trivial
 ·rename_i i T1 H1 j T2 H2
  show Out P fr B β H w b k cs m (ifB (zH (Nat.beq i j) (heq H1 H2)) (.ex i (k6 T1 T2) H1) .fail)
  rw [zu]
  split
  ·rename_i hh
   rw [zB,Bool.and_eq_true,zG,beq_iff_eq]at hh
   obtain ⟨rfl,hh⟩:=hh
   have:=bw hh
   subst this
   obtain ⟨β',w',a',k1,p,e,s⟩:=h
   exact ⟨β',w',a',k1,⟨p.rel,p.ext,p.tmp.dQ _,p.marks⟩,e,s⟩
  ·trivial
 ·rename_i T1 H1 T2 H2
  show Out P fr B β H w b k cs m (ifB (heq H1 H2) (.ret (k6 T1 T2) H1) .fail)
  rw [zu]
  split
  ·rename_i hh
   have:=bw hh
   subst this
   obtain ⟨β',w',a',k1,p,s⟩:=h
   exact ⟨β',w',a',k1,⟨p.rel,p.ext,p.tmp.dQ _,p.marks⟩,s⟩
  ·trivial
theorem VY {P:Program}{fr:Fr}{B:Nat}{β:Inj}{H:Heap}{w:World}{b:Frame}{k:List Item}{cs:List Frame}{m:Machine}{run:List Fact→qQ}:∀ (l:List (List Fact)) {f:List Fact},f∈l →
  Out P fr B β H w b k cs m (run f)→Out P fr B β H w b k cs m (JG run l)
 | [],_,hf,_=>by cases hf
 | g::l,f,hf,h=>by
  show Out P fr B β H w b k cs m (lC l (run g) fun _ _=>lI (run g) (JG run l))
  cases l with
  | nil=>
   rw [List.mem_singleton]at hf
   subst hf
   exact h
  | cons x l=>
   rw [kZ]
   rcases List.mem_cons.1 hf with rfl | hf
   ·exact h.dR _
   ·exact (VY (x::l) hf h).dQ _
def iM (E:Env):Prop:=∀ (fr:Fr) (x:Code) (l:List (List Fact)) (T:Tr zd) (H:Heap) (β:Inj) (w:World) (b:Frame) (a:Act) (k:List Item) (cs:List Frame) (B:Nat),Jz E fr.fn T=some l→At E fr B T H β w b a →
 ∃ f∈l,Out E.P fr B β H w b k cs (lone (b.atR a (.code x::k)) cs w) (yT x (E.plus f) k7 fr T H)
theorem iD (h:E.alts = .nil):iM E:=by
 intro fr x l T H β w b a k cs B hl
 unfold Jz at hl
 rw [h,Tr.get_nil]at hl
 cases hl
theorem eT {rec:Rec} (hO:Xs E rec) (hD:iK E rec) (hL:cC E rec) (hR:JA E rec) (hAl:iM E) (fr:Fr) (c:Code):cD E fr c (fun T H=>yT c E rec fr T H):=by
 induction c with
 | skip=>
  intro T H β w b a k cs B it hit hA
  obtain rfl:it = .code .skip:=by rcases hit with h | ⟨d,h,_⟩;exact h;cases h
  exact ⟨β,w,a,hA.post,.one stepR_skip⟩
 | region id ops d=>
  intro T H β w b a k cs B it hit hA
  cases d with
  | true=>exact hD fr id ops T H β w b a k cs B it hit hA
  | false=>
   obtain rfl:it = .code (.region id ops false):=by rcases hit with h | ⟨d,h,_⟩;exact h;cases h
   have:=vq hO (b:=b) (ops:=ops) (k:=k) (cs:=cs) ops.size 0 T H β w a hA (by omega)
   rw [List.drop_zero,← List.range_eq_range']at this
   exact this.steps (.one stepR_region)
 | seq x y ihx ihy=>
  intro T H β w b a k cs B it hit hA
  obtain rfl:it = .code (.seq x y):=by rcases hit with h | ⟨d,h,_⟩;exact h;cases h
  have h1:=ihx T H β w b a (.code y::k) cs B _ (.inl rfl) hA
  refine Out.steps (.one stepR_seq) ?_
  show Out E.P fr B β H w b k cs _ (@qQ.rec (fun _=>qQ) .fail (fun T H=>yT y E rec fr T H) (fun id T H=>.ex id T H) (fun T H=>.ret T H) (yT x E rec fr T H))
  cases hx:yT x E rec fr T H with
  | fail=>trivial
  | nrm T1 H1=>
   simp only [hx]at h1
   obtain ⟨β',w',a',p,s⟩:=h1
   exact ((ihy T1 H1 β' w' b a' k cs B _ (.inl rfl) (p.at_ hA)).before p.ext).steps s
  | ex id T1 H1=>
   simp only [hx]at h1
   obtain ⟨β',w',a',k1,p,e,s⟩:=h1
   exact ⟨β',w',a',k1,p,e.trans (by simp [exitTo]),s⟩
  | ret T1 H1=>
   simp only [hx]at h1
   exact h1
 | cond c x y ihx ihy=>
  intro T H β w b a k cs B it hit hA
  obtain rfl:it = .code (.cond c x y):=by rcases hit with h | ⟨d,h,_⟩;exact h;cases h
  show Out E.P fr B β H w b k cs _ (zt (ev T c) .fail fun v=>zt (asBool v) .fail fun q=>ifB q (yT x E rec fr T H) (yT y E rec fr T H))
  cases hc:ev T c with
  | none=>trivial
  | some v=>
   rw [zg]
   cases hb:asBool v with
   | none=>trivial
   | some q=>
    have:=yx hb
    subst this
    rw [zg]
    have he:=(bF hA.tmp hA.glob hc).1
    refine Out.steps (.one (stepR_cond he)) ?_
    cases q with
    | true=>exact ihx T H β w b a k cs B _ (.inl rfl) hA
    | false=>exact ihy T H β w b a k cs B _ (.inl rfl) hA
 | block id x ih=>
  intro T H β w b a k cs B it hit hA
  obtain rfl:it = .code (.block id x):=by rcases hit with h | ⟨d,h,_⟩;exact h;cases h
  have h1:=ih T H β w b a (.inBlock id::k) cs B _ (.inl rfl) hA
  refine Out.steps (.one stepR_block) ?_
  show Out E.P fr B β H w b k cs _ (@qQ.rec (fun _=>qQ) .fail (fun T H=>.nrm T H) (fun j T H=>ifB (Nat.beq j id) (.nrm T H) (.ex j T H)) (fun T H=>.ret T H) (yT x E rec fr T H))
  cases hx:yT x E rec fr T H with
  | fail=>trivial
  | nrm T1 H1=>
   simp only [hx]at h1
   obtain ⟨β',w',a',p,s⟩:=h1
   exact ⟨β',w',a',p,s.trans (.one stepR_inBlock)⟩
  | ex j T1 H1=>
   simp only [hx]at h1
   obtain ⟨β',w',a',k1,p,e,s⟩:=h1
   simp only [zu,zG]
   by_cases hj:j=id
   ·subst hj
    rw [if_pos (by simp)]
    have e:exitTo j k1=some k:=by rw [e];simp [exitTo]
    exact ⟨β',w',a',p,s.trans (.one (stepR_exit e))⟩
   ·rw [if_neg (by simpa using hj)]
    refine ⟨β',w',a',k1,p,?_,s⟩
    rw [e,exitTo,if_neg (by simpa using fun h=>hj h.symm)]
  | ret T1 H1=>
   simp only [hx]at h1
   exact h1
 | loop x ih=>
  intro T H β w b a k cs B it hit hA
  have h1:Out E.P fr B β H w b (.inLoop x::k) cs (lone (b.atR a (.code x::.inLoop x::k)) cs w) (zt (Jz E fr.fn T) (yT x E rec fr T H) fun l=>JG (fun f=>yT x (E.plus f) k7 fr T H) l):=by
   cases hl:Jz E fr.fn T with
   | none=>exact ih T H β w b a (.inLoop x::k) cs B _ (.inl rfl) hA
   | some l=>
    obtain ⟨f,hf,h⟩:=hAl fr x l T H β w b a (.inLoop x::k) cs B hl hA
    exact VY l hf h
  have hs:Steps E.P (lone (b.atR a (it::k)) cs w) (lone (b.atR a (.code x::.inLoop x::k)) cs w):=by
   rcases hit with rfl | ⟨d,h,rfl⟩
   ·exact .one stepR_loop
   ·cases h;exact .one stepR_inLoop
  refine Out.steps hs ?_
  show Out E.P fr B β H w b k cs _ (lD x rec fr (zt (Jz E fr.fn T) (yT x E rec fr T H) fun l=>JG (fun f=>yT x (E.plus f) k7 fr T H) l))
  cases hx:(zt (Jz E fr.fn T) (yT x E rec fr T H) fun l=>JG (fun f=>yT x (E.plus f) k7 fr T H) l) with
  | fail=>trivial
  | nrm T1 H1=>
   simp only [hx]at h1
   obtain ⟨β',w',a',p,s⟩:=h1
   exact ((hR fr (.loop x) T1 H1 β' w' b a' k cs B _ (.inr ⟨x,rfl,rfl⟩) (p.at_ hA)).before p.ext).steps s
  | ex j T1 H1=>
   simp only [hx]at h1
   obtain ⟨β',w',a',k1,p,e,s⟩:=h1
   exact ⟨β',w',a',k1,p,e.trans (by simp [exitTo]),s⟩
  | ret T1 H1=>
   simp only [hx]at h1
   exact h1
 | rangeFunc f ps as bo iha ihb=>exact hL fr f ps as bo
 | exit id=>
  intro T H β w b a k cs B it hit hA
  obtain rfl:it = .code (.exit id):=by rcases hit with h | ⟨d,h,_⟩;exact h;cases h
  exact ⟨β,w,a,k,hA.post,rfl,.refl _ _⟩
 | goto l=>intro T H β w b a k cs B it hit hA;trivial
 | label l=>
  intro T H β w b a k cs B it hit hA
  obtain rfl:it = .code (.label l):=by rcases hit with h | ⟨d,h,_⟩;exact h;cases h
  exact ⟨β,w,a,hA.post,.one stepR_label⟩
 | scope x ih=>intro T H β w b a k cs B it hit hA;trivial
 | ret=>
  intro T H β w b a k cs B it hit hA
  obtain rfl:it = .code .ret:=by rcases hit with h | ⟨d,h,_⟩;exact h;cases h
  exact ⟨β,w,a,k,hA.post,.refl _ _⟩
 | refuse s=>intro T H β w b a k cs B it hit hA;trivial
theorem tk {α:Type}{x:α}:∀ {l m:List α},x∈jv l m→x∈l∨x∈m:=by
 intro l m h
 rw [qy]at h
 exact List.mem_append.1 h
theorem ou (h:∀ f,Xs (E.plus f) k7∧iK (E.plus f) k7∧cC (E.plus f) k7):iM E:=by
 intro fr x l T H β w b a k cs B hl hA
 unfold Jz at hl
 replace hl:=zf hl
 obtain ⟨q,hq,hl⟩:=hl
 replace hl:=zf hl
 obtain ⟨i,_,hl⟩:=hl
 rw [kb]at hl
 obtain ⟨f,hf,hfacts⟩:=hA.glob.alts fr.fn q hq i l hl
 refine ⟨f,hf,?_⟩
 obtain ⟨h1,h2,h3⟩:=h f
 have hA':At (E.plus f) fr B T H β w b a:=⟨hA.rel,⟨hA.glob.at_,hA.glob.next,fun g hg=>(tk hg).elim (fun hg=>hfacts g hg) fun hg=>hA.glob.facts g hg,hA.glob.zW,mf rfl⟩,hA.frame,hA.tmp,hA.marks,hA.base⟩
 exact eT (E:=E.plus f) h1 h2 h3 (fun _ _ _ _ _ _ _ _ _ _ _ _ _ _=>trivial) (iD rfl) fr x T H β w b a k cs B _ (.inl rfl) hA'
end
end
section
variable [Unk]
theorem Rel.untrack {P:Program}{β:Inj}{H:Heap}{w w':World} (hR:Rel P β H w) (h:∀ c,Wm β H c→w'.heap[c]? = w.heap[c]?):Rel P β H w' where
 base:=hR.base
 blk:=fun id b x h1 h2=>(hR.blk id b x h1 h2).heap (h _ ⟨id,b,x,h1,h2,rfl⟩)
 inj:=hR.inj
 bnd:=hR.bnd
 live:=hR.live
def QX (P:Program):Prop:=∀ (f:FuncId) (fn:Func),P.funcs[f]? = some fn→(fn.name == "runtime.NumGoroutine")=false
def nb (arr:Array Value) (r:ResultVar):Sem Value:=
 match r with
 | .tmp t=>pure (arr.getD t undef)
 | .cell a t=>do Go.loadVar t (← asAddr (arr.getD a undef))
theorem fF (fn:Func) (arr:Array Value):results fn arr=(do
  let vs ← fn.results.mapM (nb arr)
  pure (if h:vs.size=1 then vs[0] else .tuple vs)):=by
 have:nb arr=(fun
  | .tmp t=>pure (arr.getD t undef)
  | .cell a t=>do Go.loadVar t (← asAddr (arr.getD a undef)):ResultVar→Sem Value):=by funext r;cases r<;>rfl
 rw [this]
 rfl
section
variable {E:Env} (hE:jU E)
include hE
theorem iq {β:Inj}{H:Heap}{w:World}{n:Nat}{T:Tr zd}{arr:Array Value} (hR:Rel E.P β H w) (hT:jV β n T arr) {r:ResultVar}{v:zd} (h:mc r E T H=some v) :
  WF β v∧(nb arr r).run E.P w = .ok (zh β v) w:=by
 cases r with
 | tmp t=>
  obtain ⟨e,hn⟩:=Ky (t:=t) h
  obtain ⟨g1,g2⟩:=(hT.tmp t).known (by rw [e];exact hn)
  rw [e]at g1 g2
  exact ⟨g1,by simp only [nb];rw [g2];simp⟩
 | cell a t=>
  have h:(bnd (T.get a) fun v=>bnd (ZS v) fun p=>E.loadVar H t p.1 p.2)=some v:=h
  replace h:=zf h
  obtain ⟨u,hu,h⟩:=h
  replace h:=zf h
  obtain ⟨p,hp,h⟩:=h
  have:=j9 hp
  subst this
  have htv:tv T a = .ptr p.1 p.2:=by unfold tv;rw [hu];rfl
  obtain ⟨t1,t2⟩:=(hT.tmp a).known (by rw [htv];rfl)
  rw [htv]at t1 t2
  obtain ⟨l1,l2⟩:=hR.loadVar hE h t1
  refine ⟨l1,?_⟩
  simp only [nb,t2,zh,asAddr,Sem.run_bind,Sem.run_pure,Result.andThen_ok,l2]
theorem eH {β:Inj}{H:Heap}{w:World}{n:Nat}{T:Tr zd}{arr:Array Value} (hR:Rel E.P β H w) (hT:jV β n T arr):∀ (rs:List ResultVar) (l:List zd),eI E T H rs=some l →
  WFs β l∧(rs.mapM (nb arr)).run E.P w = .ok (zq β l) w:=by
 intro rs
 induction rs with
 | nil=>intro l h;cases h;exact ⟨trivial,by simp [zq]⟩
 | cons r rs ih=>
  intro l h
  replace h:=zf h
  obtain ⟨a,ha,h⟩:=h
  replace h:=zf h
  obtain ⟨m,hm,h⟩:=h
  cases h
  obtain ⟨g1,g2⟩:=iq hE hR hT ha
  obtain ⟨g3,g4⟩:=ih m hm
  refine ⟨⟨g1,g3⟩,?_⟩
  rw [List.mapM_cons]
  simp only [Sem.run_bind,g2,Result.andThen_ok,g4,Sem.run_pure,zq]
theorem rW {β:Inj}{H H':Heap}{w:World}{n:Nat}{T:Tr zd}{arr:Array Value} (hR:Rel E.P β H w) (hT:jV β n T arr) {fn:Func}{v:zd} (h:leave E fn T H=some (v,H')) :
  H'=H∧WF β v∧(results fn arr).run E.P w = .ok (zh β v) w:=by
 replace h:=zf h
 obtain ⟨l,hl,h⟩:=h
 cases h
 obtain ⟨g1,g2⟩:=eH hE hR hT _ _ hl
 refine ⟨rfl,?_,?_⟩
 ·unfold one
  cases l with
  | nil=>simp [WF,WFs]
  | cons a m=>
   cases m with
   | nil=>exact g1.1
   | cons b m=>exact g1
 ·rw [fF,Sem.run_bind,Array.mapM_eq_mapM_toList,Sem.run_map,g2]
  simp only [Result.andThen_ok]
  cases l with
  | nil=>simp [one,zh,zq]
  | cons a m=>
   cases m with
   | nil=>simp [one,zq]
   | cons b m=>simp [one,zh,zq]
omit hE in
theorem unwind_ok {P:Program}{β:Inj}{H:Heap}{B:Nat}{fr:Frame}{cs:List Frame} (hm:fr.mode = .returning):∀ (rs:List Nat) (w:World),Xt B w β H rs→fr.defers=rs.map QJ →
  ∃ w',Steps P (lone fr cs w) (lone { fr with defers:=[] } cs w')∧(∀ c,(c<B∨Wm β H c)→w'.heap[c]? = w.heap[c]?)∧w'.heap.size=w.heap.size∧w'.tape=w.tape∧w'.os=w.os∧w'.output=w.output:=by
 intro rs
 induction rs generalizing fr with
 | nil=>
  intro w _ hd
  refine ⟨w,?_,fun _ _=>rfl,rfl,rfl,rfl,rfl⟩
  have:{ fr with defers:=[] }=fr:=by cases fr;simp at hd;subst hd;rfl
  rw [this]
  exact .refl _ _
 | cons r rs ih=>
  intro w h hd
  obtain ⟨a1,a2,a3,a4⟩:=h.each r (by simp)
  have ht:=run_takeDeferred (P:=P) a4
  have hs:step P (lone fr cs w) = .next (lone { fr with defers:=rs.map QJ } cs (w.putObj r (.deferred none))):=by
   refine step_lone_go ?_
   simp only [stepG,hm]
   simp [unwind,hd,QJ,Sem.runT_eq,ht,GStep.bare_after]
   exact hm
  have hne:∀ c,c≠r→(w.putObj r (.deferred none)).heap[c]? = w.heap[c]?:=by
   intro c hc
   simp only [World.putObj,Array.getElem?_setIfInBounds]
   rw [if_neg (fun e=>hc e.symm)]
  have hnd:=h.nodup
  rw [List.nodup_cons]at hnd
  obtain ⟨w',s,k1,k2,k3,k4,k5⟩:=ih (fr:={ fr with defers:=rs.map QJ }) hm (w.putObj r (.deferred none))
   ⟨hnd.2,fun r' hr'=>by
    obtain ⟨b1,b2,b3,b4⟩:=h.each r' (by simp [hr'])
    refine ⟨b1,by simpa [World.putObj] using b2,b3,?_⟩
    rw [hne r' fun e=>hnd.1 (by rw [← e];exact hr')]
    exact b4⟩ rfl
  refine ⟨w',.head hs s,fun c hc=>?_,by rw [k2];simp [World.putObj],k3,k4,k5⟩
  rw [k1 c hc,hne]
  rintro rfl
  rcases hc with hc | hc
  ·omega
  ·exact a3 hc
theorem ox {β:Inj}{args:List zd} (h:WFs β args) (nt:Nat) :
  jV β (dE nt (qT args 0)) (Tr.ofList args) ((zq β args).toArray++Array.replicate (nt-(zq β args).toArray.size) undef) where
 size:=by
  have _:=hE
  have hm:dE nt args.length=max nt args.length:=by
   unfold dE
   rw [zu,zN]
   by_cases h:nt≤args.length
   ·rw [if_pos (by simp [h])];omega
   ·rw [if_neg (by simp [h])];omega
  rw [jz,hm]
  simp [zK]
  omega
 tmp:=fun i=>by
  have ht:tv (Tr.ofList args) i=args[i]?.getD qN:=by unfold tv;rw [Tr.qV]
  rw [ht]
  cases hi:args[i]? with
  | none=>
   refine .inr ⟨by simp,?_⟩
   have:args.length≤i:=by simpa using hi
   rw [Array.getD_eq_getD_getElem?,Array.getElem?_append_right (by simp [zK];exact this),Array.getElem?_replicate]
   simp only [Option.getD_none,QR]
   split<;>rfl
  | some v=>
   have hlt:=(List.getElem?_eq_some_iff.1 hi).1
   refine .inr ⟨(jb _ _).1 h v (List.mem_of_getElem? hi),?_⟩
   rw [Array.getD_eq_getD_getElem?,Array.getElem?_append_left (by simp [zK];exact hlt)]
   simp [zK,hi]
theorem K7 {rec : Rec} (hRec : JA E rec) {f : FuncId} {args : List zd} {H H' : Heap} {v : zd} (h : kB E rec f args H = some (v, H')) {β : Inj} {w : World} (hR : Rel E.P β H w) (hG : QZ E β H) (hargs : WFs β args) :
    (∃ fn c, E.P.funcs[f]? = some fn ∧ fn.body = some c) ∧ Calls E.P f (zq β args).toArray w fun e w2 => ∃ x, e = .returned x ∧ RR E.P β H w v H' x w2 := by
  replace h := zf h
  obtain ⟨fn, hf, h⟩ := h
  rw [hE.funcs] at hf
  replace h := zf h
  obtain ⟨c, hb, h⟩ := h
  refine ⟨⟨fn, c, hf, hb⟩, fun cs => ?_⟩
  let b : Frame := { (default : Frame) with fn := f, kind := .normal }
  let a0 : Act := { tmps := (zq β args).toArray ++ Array.replicate (fn.ntmps - (zq β args).toArray.size) undef, defers := [] }
  have henter : Frame.enter E.P f (zq β args).toArray .normal = b.atR a0 [.code c] := by
    simp [Frame.enter, Frame.atR, hf, hb, b, a0]
    rfl
  have hA : At E ⟨dE fn.ntmps (qT args 0), f, none⟩ w.heap.size (Tr.ofList args) H β w b a0 :=
    ⟨hR, hG, ⟨rfl, rfl, rfl, by intro l hl; cases hl⟩, ox hE hargs _, ⟨[], rfl, ⟨List.nodup_nil, by simp⟩⟩, Nat.le_refl _⟩
  have ho := hRec ⟨dE fn.ntmps (qT args 0), f, none⟩ c (Tr.ofList args) H β w b a0 [] cs w.heap.size _ (.inl rfl) hA
  have fin : ∀ (T1 : Tr zd) (H1 : Heap) (β' : Inj) (w' : World) (a' : Act) (todo : List Item), Xr E.P β H w ⟨dE fn.ntmps (qT args 0), f, none⟩ w.heap.size β' H1 w' T1 a' →
      leave E fn T1 H1 = some (v, H') →
      Steps E.P (lone (Frame.enter E.P f (zq β args).toArray .normal) cs w) (lone { b.atR a' todo with mode := .returning } cs w') →
      ∃ e w2 fr, (∃ x, e = Ending.returned x ∧ RR E.P β H w v H' x w2) ∧ Comes E.P (lone (Frame.enter E.P f (zq β args).toArray .normal) cs w) (lone fr cs w2) e ∧ fr.fn = f ∧ fr.leaving E.P w2 e := by
    intro T1 H1 β' w' a' todo p hl hs
    obtain ⟨rs, hrs, hm⟩ := p.marks
    obtain ⟨w2, s2, k1, k2, k3, k4, k5⟩ := unwind_ok (P := E.P) (β := β') (H := H1) (B := w.heap.size) (fr := { b.atR a' todo with mode := .returning }) (cs := cs) rfl rs w' hm hrs
    have hR2 := p.rel.untrack (w' := w2) fun c hc => k1 c (.inr hc)
    obtain ⟨rfl, hv, hres⟩ := rW hE hR2 p.tmp hl
    have hext : Ext β H w β' H' w2 :=
      ⟨p.ext.old, p.ext.next, p.ext.apart, p.ext.gone, p.ext.ro, p.ext.new, fun c hc hr => by rw [k1 c (.inl hc)]; exact p.ext.frame c hc hr, by rw [k2]; exact p.ext.size, k3.trans p.ext.tape, k4.trans p.ext.os, k5.trans p.ext.output⟩
    exact ⟨.returned (zh β' v), w2, _, ⟨_, rfl, β', rfl, hv, hR2, hext⟩, hs.trans s2, rfl, rfl, rfl, rfl, fn, hf, hres⟩
  rw [← henter] at ho
  revert h ho
  cases rec ⟨dE fn.ntmps (qT args 0), f, none⟩ c (Tr.ofList args) H with
  | fail => intro h; cases h
  | nrm T1 H1 =>
    intro h ho
    obtain ⟨β', w', a', p, s⟩ := ho
    exact fin T1 H1 β' w' a' _ p h (s.trans (.one (stepR_end rfl)))
  | ex id T1 H1 => intro h; cases h
  | ret T1 H1 =>
    intro h ho
    obtain ⟨β', w', a', k1, p, s⟩ := ho
    exact fin T1 H1 β' w' a' _ p h (s.trans (.one (stepR_ret rfl)))
theorem kT (hN:QX E.P) {rec:Rec} (hRec:JA E rec) {f:FuncId}{args:List zd}{H H':Heap}{v:zd} (h:kB E rec f args H=some (v,H')) {β:Inj}{w:World} (hR:Rel E.P β H w) (hG:QZ E β H) (hargs:WFs β args) :
  Res E.P (callFunc f (zq β args).toArray) w (RR E.P β H w v H'):=by
 obtain ⟨⟨fn,c,h1,h2⟩,h3⟩:=K7 hE hRec h hR hG hargs
 have hn:fn.name ≠ "runtime.NumGoroutine" := by simpa using hN f fn h1
 refine ⟨.enter f (zq β args).toArray,w,?_,h3⟩
 simp [callFunc,h1,hn,h2]
end
end
section
variable [Unk]
def ye (P:Program) (f:FuncId) (e:Array Value→Sem Value):Prop:=
 ∃ fn:Func,P.funcs[f]? = some fn∧(fn.name == "runtime.NumGoroutine")=false∧fn.body.isNone=true∧Extern.findNext fn=none∧Extern.find fn=some e
def cz (E:Env):Prop:=∀ f s,E.spec.get f=some s →
 match s with
 | .mapsClone=>ye E.P f Extern.MapsClone.clone
 | .indexByte=>ye E.P f Extern.BytealgIndexByte.indexByte
 | .makeNoZero e=>∃ ps t,ye E.P f (Extern.BytealgMakeNoZero.makeNoZero ps #[t])∧E.P.underlying t=some (.slice e)∧jC E.P e=1
 | .same=>ye E.P f Extern.AbiNoEscape.same
 | .insert=>True
 | .compare=>ye E.P f Extern.BytealgCompare.compare
 | .count=>ye E.P f Extern.BytealgCount.count
 | .fact=>True
theorem ye.res {P:Program}{f:FuncId}{e:Array Value→Sem Value} (h:ye P f e) {args:Array Value}{β:Inj}{H H':Heap}{w:World}{v:zd} (hs:Sim P β H w (e args) v H') :
  Res P (callFunc f args) w (RR P β H w v H'):=by
 obtain ⟨fn,h1,h2,h3,h4,h5⟩:=h
 obtain ⟨β',w',g1,g2,g3,g4⟩:=hs
 refine ⟨.value (zh β' v),w',?_,β',rfl,g2,g3,g4⟩
 rw [run_callFunc_extern h1 h2 h3 h4 h5,g1]
 rfl
section
variable {E:Env} (hE:jU E)
include hE
omit hE in
theorem Ub {P : Program} {β : Inj} {H H' : Heap} {w : World} (hR : Rel P β H w) {args : List zd} {v : zd} (h : VI args H = some (v, H')) (hx : WFs β args) :
    Sim P β H w (Extern.MapsClone.clone (zq β args).toArray) v H' := by
  cases args with
  | nil => cases h
  | cons a q =>
    replace h := yS h
    obtain ⟨hnil, h⟩ := h
    subst hnil
    replace h := zf h
    obtain ⟨p, hp, h⟩ := h
    have := KT hp
    subst this
    replace h := zf h
    obtain ⟨r, hr, h⟩ := h
    have hp2 := Xl hr
    replace h := zf h
    obtain ⟨b, hb, h⟩ := h
    replace h := zf h
    obtain ⟨m, hm, h⟩ := h
    simp only [z7] at h
    cases h
    have hx1 : WF β p.2 := hx.1
    rw [hp2] at hx1
    obtain ⟨y, hy⟩ := Option.isSome_iff_exists.1 hx1
    cases b with
    | cells _ _ _ => cases hm
    | loop _ _ _ _ _ _ _ _ => cases hm
    | siter _ _ => cases hm
    | text _ _ => cases hm
    | pack _ _ _ => cases hm
    | ints _ _ => cases hm
    | view _ => cases hm
    | map es c =>
      cases hm
      obtain ⟨arr, a1, a2, a3⟩ := hR.blk r _ y hb hy
      have hfr := hR.fresh (Nat.le_refl H.next)
      obtain ⟨r1, r2⟩ := hR.add (.map es c) (.map arr c) 0 (zZ.mono (β := β) (b := .map es c) ⟨arr, j6 _ _, a2, a3⟩ (Inj.j4 hfr))
      refine ⟨β.put H.next (w.heap.size, 0, 0), push w (.map arr c), ?_, by simp [WF, Inj.zM], r1, r2⟩
      have hyb : β.blk r = y.1 := by simp [Inj.blk, hy]
      have a1' : w.heap[β.blk r]? = some (.map arr c) := by rw [hyb]; exact a1
      have hdef : Extern.MapsClone.clone #[.iface p.1 (.map (some (β.blk r)))] = (do
          let .map entries clock ← getObj (β.blk r) | stuck "maps.clone: a map expected"
          pure (.iface p.1 (.map (some (← newObj (.map entries clock)))))) := rfl
      have hc : (zq β [zd.iface p.1 p.2]).toArray = #[.iface p.1 (.map (some (β.blk r)))] := by rw [hp2]; rfl
      rw [hc, hdef]
      simp only [Sem.run_bind, MapKept.run_getObj_map a1', Result.andThen_ok, run_newObj, Sem.run_pure]
      have hm : zh (β.put H.next (w.heap.size, 0, 0)) (.iface p.1 (.map H.next)) = .iface p.1 (.map (some w.heap.size)) := by simp [zh, Inj.blk, Inj.zM]
      rw [hm]
      rfl
omit hE in
theorem ei (c:Nat) (hc:c<256):∀ (s:List Nat) (i:Nat),(∀ b∈s,b<256)→Xb c s i=match s.findIdx? (fun b=>UInt8.ofNat b==UInt8.ofNat c) with | some k=>Int.ofNat (i+k) | none=>-1:=by
 intro s
 induction s with
 | nil=>intro i _;rfl
 | cons b s ih=>
  intro i h
  have hb:=h b (by simp)
  have e:Xb c (b::s) i=ifB (Nat.beq b c) (.ofNat i) (Xb c s (Nat.succ i)):=rfl
  rw [e,List.findIdx?_cons,zu,zG]
  by_cases hbc:b=c
  ·subst hbc
   simp
  ·have:(UInt8.ofNat b==UInt8.ofNat c)=false:=by
    rw [beq_eq_false_iff_ne]
    exact fun q=>hbc (ofNat_inj hb hc q)
   rw [this,if_neg (by simpa using hbc),ih (Nat.succ i) fun x hx=>h x (by simp [hx])]
   simp only [Bool.false_eq_true,if_false]
   cases s.findIdx? (fun b=>UInt8.ofNat b==UInt8.ofNat c) with
   | none=>rfl
   | some k=>simp only [Option.map_some];congr 1;omega
omit hE in
theorem firstIdx_eq (s:List Nat) (c:UInt8):firstIdx (str s) c=match s.findIdx? (fun b=>UInt8.ofNat b==c) with | some k=>Int.ofNat k | none=>-1:=by
 have hget:∀ i,i<s.length→(str s)[i]! = UInt8.ofNat (s.getD i 0):=by
  intro i hi
  have h1:i<(str s).size:=by rw [qK];exact hi
  rw [getElem!_pos (str s) i h1]
  show (str s).data[i]=_
  simp [str,hi]
 unfold firstIdx
 rw [qK]
 have key:(List.range s.length).find? (fun i=>(str s)[i]! == c)=s.findIdx? (fun b=>UInt8.ofNat b==c):=by
  cases hf:s.findIdx? (fun b=>UInt8.ofNat b==c) with
  | none=>
   rw [List.findIdx?_eq_none_iff]at hf
   rw [List.find?_eq_none]
   intro i hi
   have hi:=List.mem_range.1 hi
   rw [hget i hi]
   have:=hf s[i] (List.getElem_mem hi)
   simp [hi,this]
  | some k=>
   rw [List.findIdx?_eq_some_iff_getElem]at hf
   obtain ⟨h1,h2,h3⟩:=hf
   rw [List.find?_eq_some_iff_getElem]
   refine ⟨by rw [hget k h1];simpa [h1] using h2,k,by simpa using h1,by simp,fun j hj=>?_⟩
   have hj':j<s.length:=by omega
   have:=h3 j hj
   simp only [List.getElem_range]
   rw [hget j hj']
   simp [hj']at this ⊢
   exact this
 rw [key]
 cases s.findIdx? (fun b=>UInt8.ofNat b==c)<;>rfl
omit hE in
theorem Uc {P:Program}{β:Inj}{H H':Heap}{w:World} (hR:Rel P β H w) {args:List zd}{v:zd} (h:VK args H=some (v,H')) (hx:WFs β args) :
  Sim P β H w (Extern.BytealgIndexByte.indexByte (zq β args).toArray) v H':=by
 cases args with
 | nil=>cases h
 | cons a r=>
  cases r with
  | nil=>cases h
  | cons b q=>
   replace h:=yS h
   obtain ⟨hnil,h⟩:=h
   subst hnil
   replace h:=zf h
   obtain ⟨s,hs,h⟩:=h
   have:=qw hs
   subst this
   replace h:=zf h
   obtain ⟨c,hc,h⟩:=h
   obtain ⟨n,rfl,rfl⟩:=Yv hc
   cases h
   refine zY.sim ⟨?_,by simp [WF]⟩ hR
   have:=run_indexByte_string (P:=P) (str s) (Int.ofNat n) w
   have hc:(zq β [zd.str s,zd.int .u8 (.ofNat n)]).toArray = #[.string (str s),.int .u8 (Int.ofNat n)]:=rfl
   rw [hc,this,firstIdx_eq,yG,ei (n % 256) (Nat.mod_lt _ (by omega)) s 0 hx.1,ofNat_mod]
   have e:((Int.ofNat n).toNat).toUInt8=UInt8.ofNat n:=rfl
   rw [e]
   cases s.findIdx? (fun b=>UInt8.ofNat b==UInt8.ofNat n) with
   | none=>rfl
   | some k=>simp [zh]
omit hE in
theorem nZ (c:Nat) (hc:c<256):∀ (s:List Nat),(∀ b∈s,b<256)→Lib.countByte (s.map UInt8.ofNat) (UInt8.ofNat c)=KI c s:=by
 intro s
 induction s with
 | nil=>intro _;rfl
 | cons b s ih=>
  intro h
  have hb:=h b (by simp)
  have e:KI c (b::s)=ifB (Nat.beq b c) (Nat.succ (KI c s)) (KI c s):=rfl
  have ih:=ih fun x hx=>h x (by simp [hx])
  unfold Lib.countByte at ih ⊢
  rw [e,List.map_cons,List.count_cons,ih,zu,zG]
  by_cases hbc:b=c
  ·subst hbc
   simp
  ·have:(UInt8.ofNat b==UInt8.ofNat c)=false:=by
    rw [beq_eq_false_iff_ne]
    exact fun q=>hbc (ofNat_inj hb hc q)
   rw [this]
   simp [hbc]
omit hE in
theorem mm {P:Program}{β:Inj}{H H':Heap}{w:World} (hR:Rel P β H w) {args:List zd}{v:zd} (h:oE args H=some (v,H')) (hx:WFs β args) :
  Sim P β H w (Extern.BytealgCount.count (zq β args).toArray) v H':=by
 cases args with
 | nil=>cases h
 | cons a r=>
  cases r with
  | nil=>cases h
  | cons b q=>
   replace h:=yS h
   obtain ⟨hnil,h⟩:=h
   subst hnil
   replace h:=zf h
   obtain ⟨s,hs,h⟩:=h
   have:=qw hs
   subst this
   replace h:=zf h
   obtain ⟨c,hc,h⟩:=h
   obtain ⟨n,rfl,rfl⟩:=Yv hc
   cases h
   refine zY.sim ⟨?_,by simp [WF]⟩ hR
   have hc:(zq β [zd.str s,zd.int .u8 (.ofNat n)]).toArray = #[.string (str s),.int .u8 (Int.ofNat n)]:=rfl
   have e:((Int.ofNat n).toNat).toUInt8=UInt8.ofNat (n % 256):=by rw [ofNat_mod];rfl
   rw [hc,Lib.run_countString (str s) (Int.ofNat n) w,YH,e,nZ (n % 256) (Nat.mod_lt _ (by omega)) s hx.1,yG]
   rfl
omit hE in
theorem Xx (s:List Nat) (i:Nat):(str s)[i]! = (s.map UInt8.ofNat).getD i 0:=by
 by_cases h:i<s.length
 ·have h1:i<(str s).size:=by rw [qK];exact h
  rw [getElem!_pos (str s) i h1]
  show (str s).data[i]=_
  simp [str,h]
 ·rw [getElem!_neg (str s) i (by rw [qK];exact h)]
  simp [List.getD,List.getElem?_eq_none (show (s.map UInt8.ofNat).length≤i by simp;omega)]
  rfl
def gL (a b:List UInt8):Int:=
 match (List.range (min a.length b.length)).find? fun i=>a.getD i 0 != b.getD i 0 with
 | some i=>if a.getD i 0<b.getD i 0 then -1 else 1
 | none=>if a.length<b.length then -1 else if a.length > b.length then 1 else 0
omit hE in
theorem n6 (x y:UInt8) (a b:List UInt8):gL (x::a) (y::b)=if x<y then -1 else if x=y then gL a b else 1:=by
 unfold gL
 have e:min (x::a).length (y::b).length=(min a.length b.length)+1:=by simp [Nat.add_min_add_right]
 rw [e,List.range_succ_eq_map,List.find?_cons]
 by_cases h:x=y
 ·subst h
  have hx:¬ x<x:=UInt8.lt_irrefl x
  simp only [List.getD_cons_zero,bne_self_eq_false,List.find?_map,if_neg hx,if_true]
  have e2:((fun i=>(x::a).getD i 0 != (x::b).getD i 0) ∘ Nat.succ)=fun i=>a.getD i 0 != b.getD i 0:=by
   funext i;simp
  rw [e2]
  cases (List.range (min a.length b.length)).find? fun i=>a.getD i 0 != b.getD i 0 with
  | none=>simp
  | some k=>simp
 ·have hb:(x != y)=true:=by simpa using h
  simp only [List.getD_cons_zero,hb,if_neg h]
omit hE in
theorem cmp_eq (s t:List Nat) (hs:∀ b∈s,b<256) (ht:∀ b∈t,b<256):Extern.BytealgCompare.cmp (str s) (str t)=n7 s t:=by
 have e:Extern.BytealgCompare.cmp (str s) (str t)=gL (s.map UInt8.ofNat) (t.map UInt8.ofNat):=by
  unfold Extern.BytealgCompare.cmp gL
  simp only [qK,List.length_map,Xx]
  rfl
 rw [e]
 clear e
 induction s generalizing t with
 | nil=>
  cases t with
  | nil=>rfl
  | cons b t=>simp [gL,n7,kZ]
 | cons a s ih=>
  cases t with
  | nil=>simp [gL,n7,bq]
  | cons b t=>
   have ha:=hs a (by simp)
   have hb:=ht b (by simp)
   have e1:n7 (a::s) (b::t)=ifB (Nat.blt a b) (.negSucc 0) (ifB (Nat.beq a b) (n7 s t) (.ofNat 1)):=rfl
   rw [List.map_cons,List.map_cons,n6,e1,ih t (fun x hx=>hs x (by simp [hx])) (fun x hx=>ht x (by simp [hx]))]
   have h1:(UInt8.ofNat a<UInt8.ofNat b)↔a<b:=by
    rw [UInt8.lt_iff_toNat_lt]
    simp [Nat.mod_eq_of_lt ha,Nat.mod_eq_of_lt hb]
   have h2:(UInt8.ofNat a=UInt8.ofNat b)↔a=b:=⟨ofNat_inj ha hb,fun h=>by rw [h]⟩
   simp only [h1,h2,zu,qo,zG,decide_eq_true_eq,beq_iff_eq]
   rfl
omit hE in
theorem cF {P:Program}{β:Inj}{H H':Heap}{w:World} (hR:Rel P β H w) {args:List zd}{v:zd} (h:cG args H=some (v,H')) (hx:WFs β args) :
  Sim P β H w (Extern.BytealgCompare.compare (zq β args).toArray) v H':=by
 cases args with
 | nil=>cases h
 | cons a r=>
  cases r with
  | nil=>cases h
  | cons b q=>
   replace h:=yS h
   obtain ⟨hnil,h⟩:=h
   subst hnil
   replace h:=zf h
   obtain ⟨s,hs,h⟩:=h
   have:=qw hs
   subst this
   replace h:=zf h
   obtain ⟨t,ht,h⟩:=h
   have:=qw ht
   subst this
   cases h
   refine zY.sim ⟨?_,by simp [WF]⟩ hR
   have hc:(zq β [zd.str s,zd.str t]).toArray = #[.string (str s),.string (str t)]:=rfl
   rw [hc,yG,← cmp_eq s t hx.1 hx.2.1]
   have hd:Extern.BytealgCompare.compare #[.string (str s),.string (str t)]=(do pure (goInt (Extern.BytealgCompare.cmp (← Extern.Bytes.bytesOf (.string (str s))) (← Extern.Bytes.bytesOf (.string (str t))))):Sem Value):=rfl
   rw [hd]
   simp [Extern.Bytes.bytesOf,zh,goInt]
theorem VJ {β:Inj}{H H':Heap}{w:World} (hR:Rel E.P β H w) {e t:TypeId}{ps:Array TypeId}{args:List zd}{v:zd} (h:Wp e args H=some (v,H')) (hx:WFs β args)
  (ht:E.P.underlying t=some (.slice e)) (hs:jC E.P e=1):Sim E.P β H w (Extern.BytealgMakeNoZero.makeNoZero ps #[t] (zq β args).toArray) v H':=by
 have _:=hE
 cases args with
 | nil=>cases h
 | cons a q=>
  replace h:=yS h
  obtain ⟨hnil,h⟩:=h
  subst hnil
  replace h:=zf h
  obtain ⟨p,hp,h⟩:=h
  have:=qU hp
  subst this
  replace h:=zl h
  obtain ⟨hi,h⟩:=h
  replace h:=qP h
  obtain ⟨n,hn,h⟩:=h
  replace h:=zl h
  obtain ⟨hle,h⟩:=h
  rw [zN,decide_eq_true_eq]at hle
  simp only [z7]at h
  cases h
  obtain ⟨cs,c1,c2,_⟩:=Lib.run_makeNoZero (P:=E.P) w ps t e ht n (by omega)
  have hA:Alike w w.drew.drew:=⟨rfl,rfl,rfl,rfl⟩
  have hR':=hR.alike hA
  obtain ⟨r1,r2⟩:=hR'.newRow (t:=e) (n:=n) (c:=.nil) (arr:=cs) (e:=cs.size-n) (fz:=(0,0))
   ⟨by rw [hs];omega,fun i v hv=>absurd hv (by rw [Tr.get_nil];simp),fun i _ hf=>by simp at hf,Nat.dvd_zero _⟩
  refine ⟨β.put H.next (w.heap.size,0,cs.size-n),push w.drew.drew (.cells cs e),?_,⟨by simp [Inj.zM],Nat.le_refl _⟩,r1,(Ext.alike hR.bnd hA).trans r2⟩
  have hc:(zq β [zd.int p.1 p.2]).toArray = #[.int .i64 (n:Int)]:=by
   have h1:=ZA hi
   simp only [zq,zh]
   rw [h1,hn];rfl
  rw [hc,c1]
  simp only [zh,Xc,ka,Bool.false_eq_true,if_false]
  rw [show n+(cs.size-n)=cs.size by omega]
  rfl
omit hE in
theorem U1 {P:Program}{β:Inj}{H:Heap}{w:World} (hR:Rel P β H w) {l:Nat}{q:Lp} (h:H.lp l=some q) (hl:(β l).isSome) :
  H.blk.get l=some q.blk∧∃ r:Loop,w.heap[β.blk l]? = some (.loop r)∧r.state=q.st∧r.pending=q.pend∧r.fn=q.fn∧jV β q.n q.T r.tmps∧r.params=q.ps∧r.assign=q.assign∧r.body=q.body:=by
 replace h:=zl h
 obtain ⟨_,h⟩:=h
 replace h:=zf h
 obtain ⟨b,hb,h⟩:=h
 cases b with
 | cells _ _ _=>cases h
 | map _ _=>cases h
 | siter _ _=>cases h
 | text _ _=>cases h
 | pack _ _ _=>cases h
 | ints _ _=>cases h
 | view _=>cases h
 | loop st pend fn n T ps as bo=>
  cases h
  refine ⟨hb,?_⟩
  obtain ⟨y,hy⟩:=Option.isSome_iff_exists.1 hl
  obtain ⟨tmps,d,h1,h2⟩:=hR.blk l _ y hb hy
  exact ⟨_,by simp [Inj.blk,hy];exact h1,rfl,rfl,rfl,h2,rfl,rfl,rfl⟩
omit hE in
theorem VU {P:Program}{β:Inj}{H:Heap}{w:World} (hR:Rel P β H w) {l:Nat}{q:Lp} (h:H.lp l=some q) (hl:(β l).isSome) {r:Loop} (hr:w.heap[β.blk l]? = some (.loop r)) (st:LoopState) (pend:Option Code) :
  Rel P β (H.ZK l q st pend) (w.putObj (β.blk l) (.loop { r with state:=st,pending:=pend })) ∧
  Ext β H w β (H.ZK l q st pend) (w.putObj (β.blk l) (.loop { r with state:=st,pending:=pend })):=by
 obtain ⟨h1,r',h2,h3,h4,h5,h6,h7,h8,h9⟩:=U1 hR h hl
 rw [hr]at h2
 cases h2
 obtain ⟨y,hy⟩:=Option.isSome_iff_exists.1 hl
 have hb:β.blk l=y.1:=by simp [Inj.blk,hy]
 have hlt:=(Array.getElem?_eq_some_iff.1 hr).1
 have h60:100≤l:=by
  have:=(zl h).1
  rwa [zN,decide_eq_true_eq]at this
 refine hR.oG h60 h1 hy ?_ ?_
 ·rw [hb]
  exact ⟨fun k hk=>World.putObj_heap_other hk,World.putObj_size,rfl,rfl,rfl⟩
 ·refine ⟨r.tmps,r.defers,?_,h6⟩
  rw [← hb,World.putObj_heap_same hlt]
  simp [h5,h7,h8,h9]
omit hE in
theorem mV {β:Inj}{n:Nat}:∀ (ps:List Tmp) (args:List zd) (T:Tr zd) (arr:Array Value),jV β n T arr→WFs β args→rU n ps=true→args.length=ps.length →
  jV β n (XB ps args T) ((ps.zip (zq β args)).foldl (fun tmps (p:Tmp×Value)=>tmps.setIfInBounds p.1 p.2) arr):=by
 intro ps
 induction ps with
 | nil=>intro args T arr h _ _ _;exact h
 | cons p ps ih=>
  intro args T arr h hw hl hn
  cases args with
  | nil=>simp at hn
  | cons a args=>
   have hl:ifB (Nat.blt p n) (rU n ps) false=true:=hl
   rw [zu]at hl
   split at hl
   ·rename_i hp
    rw [qo,decide_eq_true_eq]at hp
    exact ih args (T.set p a) (arr.setIfInBounds p (zh β a)) (h.set hp hw.1) hw.2 hl (by simpa using hn)
   ·cases hl
theorem oo {rec : Rec} (hRec : JA E rec) {l : Nat} {args : List zd} {H H' : Heap} {v : zd} (h : ik rec l args H = some (v, H')) {β : Inj} {w : World} (hR : Rel E.P β H w) (hG : QZ E β H) (hargs : WFs β args)
    (hl : (β l).isSome) : Res E.P (Instr.yield (β.blk l) (zq β args).toArray) w (RR E.P β H w v H') := by
  have _ := hE
  replace h := zf h
  obtain ⟨q, hq, h⟩ := h
  replace h := zl h
  obtain ⟨hc, h⟩ := h
  simp only [zB, Bool.and_eq_true, zG, beq_iff_eq, jz] at hc
  obtain ⟨hc1, hc2, hc3⟩ := hc
  obtain ⟨h1, r, h2, h3, h4, h5, h6, h7, h8, h9⟩ := U1 hR hq hl
  have hsz : (zq β args).toArray.size = r.params.size := by rw [h7]; simp [zK, hc2]
  have hy := run_yield (P := E.P) h2 hsz
  refine ⟨_, w, hy, ?_⟩
  intro c cs
  let b : Frame := { (default : Frame) with fn := q.fn, kind := .normal, roundOf := some (β.blk l) }
  let a0 : Act := { tmps := (r.params.zip (zq β args).toArray).foldl (fun tmps (t, a) => tmps.setIfInBounds t a) r.tmps, defers := [] }
  have hb0 : Frame.round (β.blk l) r.fn a0.tmps r.assign r.body .normal = b.atR a0 [.code q.assign, .beginRound, .code q.body] := by
    rw [h5, h8, h9]
    simp [Frame.round, Frame.atR, b, a0]
  have hT0 : jV β q.n (XB q.ps.toList args q.T) a0.tmps := by
    have := mV q.ps.toList args q.T r.tmps h6 hargs hc3 (by rw [hc2])
    have e : a0.tmps = (q.ps.toList.zip (zq β args)).foldl (fun tmps (p : Tmp × Value) => tmps.setIfInBounds p.1 p.2) r.tmps := by
      show (r.params.zip (zq β args).toArray).foldl (fun tmps (x : Tmp × Value) => tmps.setIfInBounds x.1 x.2) r.tmps = _
      rw [h7, ← Array.foldl_toList, Array.toList_zip]
    rw [e]
    exact this
  have hA0 : At E ⟨q.n, q.fn, some l⟩ w.heap.size (XB q.ps.toList args q.T) H β w b a0 :=
    ⟨hR, hG, ⟨rfl, rfl, rfl, fun l' hl' => by cases hl'; exact hl⟩, hT0, ⟨[], rfl, ⟨List.nodup_nil, by simp⟩⟩, Nat.le_refl _⟩
  show ∃ v_1 w2, RR E.P β H w v H' v_1 w2 ∧ Steps E.P (lone (Frame.round (β.blk l) r.fn a0.tmps r.assign r.body .normal) (c :: cs) w) (lone (c.finish v_1) cs w2)
  rw [hb0]
  have ho := hRec ⟨q.n, q.fn, some l⟩ q.assign (XB q.ps.toList args q.T) H β w b a0 [.beginRound, .code q.body] (c :: cs) w.heap.size _ (.inl rfl) hA0
  revert h ho
  cases rec ⟨q.n, q.fn, some l⟩ q.assign (XB q.ps.toList args q.T) H with
  | fail => intro h; cases h
  | ex id T1 H1 => intro h; cases h
  | ret T1 H1 => intro h; cases h
  | nrm T1 H1 =>
    intro h ho
    obtain ⟨β1, w1, a1, p1, s1⟩ := ho
    replace h := zf h
    obtain ⟨q1, hq1, h⟩ := h
    replace h := zl h
    obtain ⟨hrd, h⟩ := h
    have hle1 := p1.ext.le hR.bnd
    have hl1 : (β1 l).isSome := by rw [hle1.some hl]; exact hl
    have hbl1 : β1.blk l = β.blk l := by simp [Inj.blk, hle1.some hl]
    obtain ⟨g1, r1, g2, g3, g4, g5, g6, g7, g8, g9⟩ := U1 p1.rel hq1 hl1
    have hst : r1.state = .ready := by
      rw [g3]
      revert hrd
      cases q1.st <;> intro hrd <;> first | rfl | cases hrd
    obtain ⟨k1, k2⟩ := VU p1.rel hq1 hl1 g2 .busy r1.pending
    rw [g4] at k1 k2
    have hbr : (Instr.beginRound (β.blk l)).run E.P w1 = .ok () (w1.putObj (β1.blk l) (.loop { r1 with state := .busy, pending := q1.pend })) := by
      rw [← hbl1, run_beginRound g2 hst]
      have : ({ r1 with state := .busy, pending := q1.pend } : Loop) = { r1 with state := .busy } := by rw [← g4]
      rw [this]
    have s2 : Steps E.P (lone (b.atR a1 [.beginRound, .code q.body]) (c :: cs) w1) (lone (b.atR a1 [.code q.body]) (c :: cs) (w1.putObj (β1.blk l) (.loop { r1 with state := .busy, pending := q1.pend }))) :=
      .one (stepR_beginRound rfl hbr)
    have hA1 : At E ⟨q.n, q.fn, some l⟩ w.heap.size T1 (H1.ZK l q1 .busy q1.pend) β1 (w1.putObj (β1.blk l) (.loop { r1 with state := .busy, pending := q1.pend })) b a1 := by
      have hA := p1.at_ hA0
      exact ⟨k1, hA.glob.ext hA.rel.bnd k2, hA.frame, hA.tmp, hA.marks.ext k2, Nat.le_trans hA.base k2.size⟩
    have ho2 := hRec ⟨q.n, q.fn, some l⟩ q.body T1 (H1.ZK l q1 .busy q1.pend) β1 _ b a1 [] (c :: cs) w.heap.size _ (.inl rfl) hA1
    have hext1 := p1.ext.trans k2
    have fin : ∀ (β3 : Inj) (H3 : Heap) (w3 : World) (T3 : Tr zd) (a3 : Act) (q3 : Lp) (st : LoopState) (jump : Option Code), Xr E.P β1 (H1.ZK l q1 .busy q1.pend) (w1.putObj (β1.blk l) (.loop { r1 with state := .busy, pending := q1.pend })) ⟨q.n, q.fn, some l⟩ w.heap.size β3 H3 w3 T3 a3 →
        H3.lp l = some q3 → st = (if jump.isNone then .ready else .done) →
        ∃ w4, (Instr.endRound (β.blk l) jump).run E.P w3 = .ok (.bool jump.isNone) w4 ∧ RR E.P β H w (.bool jump.isNone) (H3.ZK l q3 st jump) (.bool jump.isNone) w4 := by
      intro β3 H3 w3 T3 a3 q3 st jump p3 hq3 hst3
      have hle3 := p3.ext.le k1.bnd
      have hl3 : (β3 l).isSome := by rw [hle3.some hl1]; exact hl1
      have hbl3 : β3.blk l = β.blk l := by rw [← hbl1]; simp [Inj.blk, hle3.some hl1]
      obtain ⟨_, r3, e2, _⟩ := U1 p3.rel hq3 hl3
      obtain ⟨m1, m2⟩ := VU p3.rel hq3 hl3 e2 st jump
      refine ⟨_, by rw [← hbl3]; exact run_endRound jump e2, β3, rfl, trivial, ?_, ?_⟩
      · rw [← hst3]; exact m1
      · rw [← hst3]; exact (hext1.trans p3.ext).trans m2
    revert h ho2
    cases rec ⟨q.n, q.fn, some l⟩ q.body T1 (H1.ZK l q1 .busy q1.pend) with
    | fail => intro h; cases h
    | nrm T3 H3 =>
      intro h ho2
      obtain ⟨β3, w3, a3, p3, s3⟩ := ho2
      replace h := zf h
      obtain ⟨q3, hq3, h⟩ := h
      cases h
      obtain ⟨w4, f1, f2⟩ := fin β3 H3 w3 T3 a3 q3 .ready none p3 hq3 rfl
      exact ⟨.bool true, w4, f2, s1.trans (s2.trans (s3.trans (.one (stepR_round_end rfl rfl f1))))⟩
    | ex id T3 H3 =>
      intro h ho2
      obtain ⟨β3, w3, a3, k, p3, hx, s3⟩ := ho2
      replace h := zf h
      obtain ⟨q3, hq3, h⟩ := h
      cases h
      obtain ⟨w4, f1, f2⟩ := fin β3 H3 w3 T3 a3 q3 .done (some (.exit id)) p3 hq3 rfl
      exact ⟨.bool false, w4, f2, s1.trans (s2.trans (s3.trans (.one (stepR_round_exit rfl rfl hx f1))))⟩
    | ret T3 H3 =>
      intro h ho2
      obtain ⟨β3, w3, a3, k, p3, s3⟩ := ho2
      replace h := zf h
      obtain ⟨q3, hq3, h⟩ := h
      cases h
      obtain ⟨w4, f1, f2⟩ := fin β3 H3 w3 T3 a3 q3 .done (some .ret) p3 hq3 rfl
      exact ⟨.bool false, w4, f2, s1.trans (s2.trans (s3.trans (.one (stepR_round_ret rfl rfl f1))))⟩
end
end
section
variable [Unk]
theorem fJ {α β:Type} (f:α→β):∀ (p:Pa) (t:Tr α),ZX p (Qm f t)=(ZX p t).map f:=by
 intro p
 induction p with
 | e=>intro t;cases t with
  | nil=>rfl
  | node l v r=>cases v<;>rfl
 | o p ih=>intro t;cases t with
  | nil=>rfl
  | node l v r=>exact ih l
 | i p ih=>intro t;cases t with
  | nil=>rfl
  | node l v r=>exact ih r
theorem Zl {α β:Type} (f:α→β) (t:Tr α) (i:Nat):(Qm f t).get i=(t.get i).map f:=fJ f _ _
def sh (N d id:Nat):Nat:=if id<N then id else d+(id-N)
theorem kE {α:Type} (N d id:Nat) (f:Nat→α):kl N d id f=f (sh N d id):=by
 unfold kl sh
 rw [zu,qo]
 by_cases h:id<N
 ·simp [h]
 ·simp [h]
def kA (β γ:Inj) (N d:Nat):Inj:=fun id=>if id<d then β id else γ (id-d+N)
theorem rA {β γ:Inj}{N d:Nat} (hN:N≤d) (hlow:∀ id,id<N→∀ x,γ id=some x→β id=some x) {id:Nat}{x:Nat×Nat×Nat} (h:γ id=some x):kA β γ N d (sh N d id)=some x:=by
 unfold kA sh
 by_cases hi:id<N
 ·rw [if_pos hi,if_pos (by omega)];exact hlow id hi x h
 ·rw [if_neg hi,if_neg (by omega)]
  have:d+(id-N)-d+N=id:=by omega
  rw [this];exact h
section
variable {β γ:Inj}{N d:Nat} (hN:N≤d) (hlow:∀ id,id<N→∀ x,γ id=some x→β id=some x)
include hN hlow
theorem jx {id:Nat} (h:(γ id).isSome):kA β γ N d (sh N d id)=γ id:=by
 obtain ⟨x,hx⟩:=Option.isSome_iff_exists.1 h
 rw [rA hN hlow hx,hx]
mutual
theorem ZV:∀ v,WF γ v→WF (kA β γ N d) (shV N d v)∧zh (kA β γ N d) (shV N d v)=zh γ v
 | .bool _,_=>⟨trivial,rfl⟩
 | .int _ _,_=>⟨trivial,rfl⟩
 | .str _,w=>⟨w,rfl⟩
 | .nilp,_=>⟨trivial,rfl⟩
 | .ptr b o,w=>by
  have e:shV N d (.ptr b o) = .ptr (sh N d b) o:=kE _ _ _ _
  have m:=jx hN hlow (show (γ b).isSome from w)
  rw [e]
  exact ⟨by simp only [WF];rw [m];exact w,by simp [zh,Inj.addr,Inj.blk,Inj.sh,m]⟩
 | .nilslice,_=>⟨trivial,rfl⟩
 | .slice b o l c x,w=>by
  have e:shV N d (.slice b o l c x) = .slice (sh N d b) o l c x:=kE _ _ _ _
  have m:=jx hN hlow (show (γ b).isSome from w.1)
  rw [e]
  exact ⟨⟨by rw [m];exact w.1,w.2⟩,by simp [zh,Inj.addr,Inj.blk,Inj.sh,Inj.ext,m]⟩
 | .nilmap,_=>⟨trivial,rfl⟩
 | .map r,w=>by
  have e:shV N d (.map r) = .map (sh N d r):=kE _ _ _ _
  have m:=jx hN hlow (show (γ r).isSome from w)
  rw [e]
  exact ⟨by simp only [WF];rw [m];exact w,by simp [zh,Inj.blk,m]⟩
 | .fn f l m,w=>by
  obtain ⟨a1,a2⟩:=YL l w.1
  obtain ⟨b1,b2⟩:=YL m w.2
  exact ⟨⟨a1,b1⟩,by show Value.func _ _ _=_;rw [a2,b2];rfl⟩
 | .yieldf l,w=>by
  have e:shV N d (.yieldf l) = .yieldf (sh N d l):=kE _ _ _ _
  have m:=jx hN hlow (show (γ l).isSome from w)
  rw [e]
  exact ⟨by simp only [WF];rw [m];exact w,by simp [zh,Inj.blk,m]⟩
 | .capv b c,w=>by
  have e:shV N d (.capv b c) = .capv (sh N d b) c:=kE _ _ _ _
  have m:=jx hN hlow (show (γ b).isSome from w)
  rw [e]
  exact ⟨by simp only [WF];rw [m];exact w,by simp [zh,Inj.ext,m]⟩
 | .nilfn,_=>⟨trivial,rfl⟩
 | .iface t v,w=>by
  obtain ⟨a1,a2⟩:=ZV v w
  have e:shV N d (.iface t v) = .iface t (shV N d v):=rfl
  rw [e]
  exact ⟨a1,by simp [zh,a2]⟩
 | .niliface,_=>⟨trivial,rfl⟩
 | .agg l,w=>by
  obtain ⟨a1,a2⟩:=YL l w
  exact ⟨a1,by show Value.agg _=_;rw [a2];rfl⟩
 | .tuple l,w=>by
  obtain ⟨a1,a2⟩:=YL l w
  exact ⟨a1,by show Value.tuple _=_;rw [a2];rfl⟩
 | .sym i,w=>by
  have e:shV N d (.sym i) = .sym (sh N d i):=kE _ _ _ _
  have m:=jx hN hlow (show (γ i).isSome from w)
  rw [e]
  exact ⟨by simp only [WF];rw [m];exact w,by simp [zh,m]⟩
 | .esl b o q,w=>by
  have e:shV N d (.esl b o q) = .esl (sh N d b) o q:=kE _ _ _ _
  have m:=jx hN hlow (show (γ b).isSome from w)
  rw [e]
  have e1:(kA β γ N d).ext (sh N d b)=γ.ext b:=by simp [Inj.ext,m]
  have e2:∀ o,(kA β γ N d).addr (sh N d b) o=γ.addr b o:=fun o=>by simp [Inj.addr,Inj.blk,Inj.sh,m]
  exact ⟨by simp only [WF];rw [m];exact w,by simp only [zh,e1,e2]⟩
 | .osl b v,w=>by
  obtain ⟨w1,w2,s,w3,w4⟩:=w
  have e:shV N d (.osl b v) = .osl (sh N d b) (shV N d v):=kE _ _ _ _
  have m:=jx hN hlow w1
  obtain ⟨a1,a2⟩:=ZV v w2
  rw [e]
  have e1:(kA β γ N d).ext (sh N d b)=γ.ext b:=by simp [Inj.ext,m]
  have e2:∀ o,(kA β γ N d).addr (sh N d b) o=γ.addr b o:=fun o=>by simp [Inj.addr,Inj.blk,Inj.sh,m]
  exact ⟨⟨by rw [m];exact w1,a1,s,by rw [a2];exact w3,by rw [e1];exact w4⟩,by simp only [zh,e1,e2,a2]⟩
 | .psl b o q c x,w=>by
  obtain ⟨w1,w2,n,w3,w4⟩:=w
  have e:shV N d (.psl b o q c x) = .psl (sh N d b) o (sh N d q) c x:=(kE _ _ _ _).trans (kE _ _ _ _)
  have m:=jx hN hlow w1
  have m2:=jx hN hlow w2
  rw [e]
  have e1:(kA β γ N d).ext (sh N d b)=γ.ext b:=by simp [Inj.ext,m]
  have e2:∀ o,(kA β γ N d).addr (sh N d b) o=γ.addr b o:=fun o=>by simp [Inj.addr,Inj.blk,Inj.sh,m]
  exact ⟨⟨by rw [m];exact w1,by rw [m2];exact w2,n,by rw [m2];exact w3,w4⟩,by simp only [zh,e1,e2,m2]⟩
theorem YL:∀ l,WFs γ l→WFs (kA β γ N d) (@zd.rec_1 (fun _=>zd) (fun _=>List zd)
  (fun b=>.bool b) (fun k n=>.int k n) (fun s=>.str s) .nilp (fun b o=>kl N d b fun m=>.ptr m o) .nilslice (fun b o l c x=>kl N d b fun m=>.slice m o l c x) .nilmap (fun r=>kl N d r fun m=>.map m)
  (fun f _ _ l m=>.fn f l m) (fun l=>kl N d l fun m=>.yieldf m) (fun b c=>kl N d b fun m=>.capv m c) .nilfn (fun t _ v=>.iface t v) .niliface (fun _ l=>.agg l) (fun _ l=>.tuple l) (fun i=>kl N d i fun m=>.sym m) (fun b o q=>kl N d b fun m=>.esl m o q) (fun b _ v=>kl N d b fun m=>.osl m v) (fun b o q c x=>kl N d b fun m=>kl N d q fun p=>.psl m o p c x)
  [] (fun _ _ a l=>a::l) l)∧zq (kA β γ N d) (@zd.rec_1 (fun _=>zd) (fun _=>List zd)
  (fun b=>.bool b) (fun k n=>.int k n) (fun s=>.str s) .nilp (fun b o=>kl N d b fun m=>.ptr m o) .nilslice (fun b o l c x=>kl N d b fun m=>.slice m o l c x) .nilmap (fun r=>kl N d r fun m=>.map m)
  (fun f _ _ l m=>.fn f l m) (fun l=>kl N d l fun m=>.yieldf m) (fun b c=>kl N d b fun m=>.capv m c) .nilfn (fun t _ v=>.iface t v) .niliface (fun _ l=>.agg l) (fun _ l=>.tuple l) (fun i=>kl N d i fun m=>.sym m) (fun b o q=>kl N d b fun m=>.esl m o q) (fun b _ v=>kl N d b fun m=>.osl m v) (fun b o q c x=>kl N d b fun m=>kl N d q fun p=>.psl m o p c x)
  [] (fun _ _ a l=>a::l) l)=zq γ l
 | [],_=>by
  have _:=hN;have _:=hlow
  exact ⟨trivial,rfl⟩
 | v::l,w=>by
  obtain ⟨a1,a2⟩:=ZV v w.1
  obtain ⟨b1,b2⟩:=YL l w.2
  exact ⟨⟨a1,b1⟩,by show zh _ (shV N d v)::zq _ _=_;rw [a2,b2];rfl⟩
end
theorem xe {P:Program}{b:zJ}{x:Nat×Nat×Nat}{w:World} (hl:(yc b).isNone=true) (h:zZ P γ b x w):zZ P (kA β γ N d) (shB N d b) x w:=by
 cases b with
 | cells t n c=>
  obtain ⟨arr,fz,h1,h2⟩:=h
  refine ⟨arr,fz,h1,h2.size,fun i v hv=>?_,h2.thaw,h2.al⟩
  rw [Zl]at hv
  obtain ⟨u,hu,rfl⟩:=Option.map_eq_some_iff.1 hv
  obtain ⟨a1,a2⟩:=h2.cell i u hu
  obtain ⟨b1,b2⟩:=ZV hN hlow u a1
  exact ⟨b1,by rw [b2];exact a2⟩
 | map es clock=>
  obtain ⟨arr,h1,h2,h3⟩:=h
  refine ⟨arr,h1,?_,?_⟩
  ·rw [h2,jA,List.map_map]
   refine List.map_congr_left fun e he=>?_
   obtain ⟨a1,a2,a3⟩:=h3 e he
   show yI γ e=yI _ (e.1,shV N d e.2.1,e.2.2)
   simp only [yI]
   rw [(ZV hN hlow _ a1).2,(Qn (β':=kA β γ N d) a3 a2).2]
  ·intro e he
   rw [jA]at he
   obtain ⟨u,hu,rfl⟩:=List.mem_map.1 he
   obtain ⟨a1,a2⟩:=h3 u hu
   exact ⟨(ZV hN hlow _ a1).1,(Qn a2.2 a2.1).1,a2.2⟩
 | loop a b c e f g h i=>cases hl
 | siter s p=>exact h
 | text t v=>
  obtain ⟨arr,fz,h1,h2⟩:=h
  obtain ⟨a1,a2⟩:=ZV hN hlow v h2.wf
  exact ⟨arr,fz,h1,a1,by rw [a2];exact h2.is,h2.size,by rw [a2];exact h2.cell,h2.thaw,h2.one⟩
 | ints t v=>
  obtain ⟨arr,fz,h1,h2⟩:=h
  obtain ⟨a1,a2⟩:=ZV hN hlow v h2.wf
  exact ⟨arr,fz,h1,a1,by rw [a2];exact h2.is,h2.size,by rw [a2];exact h2.cell,h2.thaw,h2.one⟩
 | view c=>
  obtain ⟨arr,t,fz,h1,h2⟩:=h
  refine ⟨arr,t,fz,h1,fun i v hv=>?_⟩
  have hv:(Qm (shV N d) c).get i=some v:=hv
  rw [Zl]at hv
  obtain ⟨u,hu,rfl⟩:=Option.map_eq_some_iff.1 hv
  obtain ⟨b1,b2⟩:=h2 i u hu
  obtain ⟨a1,a2⟩:=ZV hN hlow u b1
  exact ⟨a1,by rw [a2];exact b2⟩
 | pack t n N=>
  obtain ⟨arr,fz,h1,h2⟩:=h
  exact ⟨arr,fz,h1,h2.bytes⟩
end
theorem de (N d:Nat):∀ (rows:List (Nat×zJ)) (t:Tr zJ) (id:Nat) (b:zJ),(Za N d rows t).get id=some b→t.get id=some b∨∃ p∈rows,id=sh N d p.1∧b=shB N d p.2:=by
 intro rows
 induction rows with
 | nil=>intro t id b h;exact .inl h
 | cons p rows ih=>
  intro t id b h
  have e:Za N d (p::rows) t=Za N d rows (t.set (sh N d p.1) (shB N d p.2)):=kE _ _ _ _
  rw [e]at h
  rcases ih _ _ _ h with h | ⟨q,hq,h1,h2⟩
  ·rw [Tr.zR]at h
   by_cases hi:sh N d p.1=id
   ·rw [if_pos hi]at h
    cases h
    exact .inr ⟨p,List.mem_cons_self,hi.symm,rfl⟩
   ·rw [if_neg hi]at h
    exact .inl h
  ·exact .inr ⟨q,List.mem_cons_of_mem _ hq,h1,h2⟩
theorem Jj (N d:Nat):∀ (rows:List (Nat×zJ)) (t:Tr zJ) (id:Nat),id<d→(∀ p∈rows,N≤p.1)→(Za N d rows t).get id=t.get id:=by
 intro rows
 induction rows with
 | nil=>intro t id _ _;rfl
 | cons p rows ih=>
  intro t id h hp
  have e:Za N d (p::rows) t=Za N d rows (t.set (sh N d p.1) (shB N d p.2)):=kE _ _ _ _
  rw [e,ih _ _ h fun q hq=>hp q (List.mem_cons_of_mem _ hq),Tr.zR,if_neg]
  have:=hp p List.mem_cons_self
  unfold sh
  rw [if_neg (by omega)]
  omega
theorem oC {P:Program}{β γ:Inj}{H H':Heap}{w w2:World} (hR:Rel P β H w) {N n:Nat}{rows:List (Nat×zJ)}{r v:zd} (h:oD H N n rows r=some (v,H'))
  (hrows:∀ p∈rows,N≤p.1∧p.1<N+n∧(yc p.2).isNone=true) (hg:Grown w w2) (hr:WF γ r) (hm:Made P β N n rows γ w w2):RR P β H w v H' (zh γ r) w2:=by
 obtain ⟨h1,h⟩:=zl h
 rw [zN,decide_eq_true_eq]at h1
 cases h
 obtain ⟨v1,v2⟩:=ZV h1 hm.low r hr
 have hold:∀ id,id<H.next→kA β γ N H.next id=β id:=fun id hid=>by unfold kA;rw [if_pos hid]
 have hnew:∀ id,H.next≤id→kA β γ N H.next id=γ (id-H.next+N):=fun id hid=>by unfold kA;rw [if_neg (by omega)]
 have hget:∀ id b,(Za N H.next rows H.blk).get id=some b→(id<H.next∧H.blk.get id=some b)∨(∃ p∈rows,id=H.next+(p.1-N)∧b=shB N H.next p.2):=by
  intro id b hb
  rcases de N H.next rows H.blk id b hb with hb | ⟨p,hp,e1,e2⟩
  ·exact .inl ⟨hR.live _ _ hb,hb⟩
  ·refine .inr ⟨p,hp,?_,e2⟩
   rw [e1]
   have:=(hrows p hp).1
   unfold sh
   rw [if_neg (by omega)]
 have hid:∀ p∈rows,H.next+(p.1-N)-H.next+N=p.1:=fun p hp=>by have:=(hrows p hp).1;omega
 have hle:β.le (kA β γ N H.next):=fun id x hx=>by rw [hold id (hR.bnd _ _ hx)];exact hx
 have oldlt:∀ id b x,H.blk.get id=some b→β id=some x→x.1<w.heap.size:=fun id b x a1 a2=>(hR.blk id b x a1 a2).lt
 refine ⟨kA β γ N H.next,v2.symm,v1,⟨Nat.le_trans hR.base (Nat.le_add_right _ _),?_,?_,?_,?_⟩,⟨hold,Nat.le_add_right _ _,?_,?_,?_,?_,fun c hc _=>hg.old c hc,hg.size,hg.tape,hg.os,hg.output⟩⟩
 ·intro id b x hb hx
  rcases hget id b hb with ⟨a1,a2⟩ | ⟨p,hp,rfl,rfl⟩
  ·rw [hold id a1]at hx
   exact ((hR.blk id b x a2 hx).qA hg.old).mono hle
  ·rw [hnew _ (Nat.le_add_right _ _),hid p hp]at hx
   exact xe h1 hm.low (hrows p hp).2.2 (hm.blk p hp x hx)
 ·intro i j b c x y hb hx hc hy e
  rcases hget i b hb with ⟨a1,a2⟩ | ⟨p,hp,rfl,rfl⟩<;>rcases hget j c hc with ⟨b1,b2⟩ | ⟨q,hq,rfl,rfl⟩
  ·rw [hold i a1]at hx
   rw [hold j b1]at hy
   exact hR.inj i j b c x y a2 hx b2 hy e
  ·rw [hold i a1]at hx
   rw [hnew _ (Nat.le_add_right _ _),hid q hq]at hy
   have:=oldlt i b x a2 hx
   have:=hm.new _ _ (hrows q hq).1 hy
   omega
  ·rw [hold j b1]at hy
   rw [hnew _ (Nat.le_add_right _ _),hid p hp]at hx
   have:=oldlt j c y b2 hy
   have:=hm.new _ _ (hrows p hp).1 hx
   omega
  ·rw [hnew _ (Nat.le_add_right _ _),hid p hp]at hx
   rw [hnew _ (Nat.le_add_right _ _),hid q hq]at hy
   exact .inl (by rw [hm.inj p hp q hq x y hx hy e])
 ·intro id x hx
  show id<H.next+n
  by_cases hi:id<H.next
  ·omega
  ·rw [hnew id (by omega)]at hx
   rcases Nat.lt_or_ge (id-H.next+N) (N+n) with hl | hge
   ·omega
   ·rw [hm.high _ hge]at hx;cases hx
 ·intro id b hb
  show id<H.next+n
  rcases hget id b hb with ⟨a1,_⟩ | ⟨p,hp,rfl,_⟩
  ·omega
  ·have:=(hrows p hp).2.1;have:=(hrows p hp).1;omega
 ·intro id hi _
  exact Jj N H.next rows H.blk id hi fun p hp=>(hrows p hp).1
 ·intro id b hi hb
  have hb:(Za N H.next rows H.blk).get id=some b:=hb
  rw [Jj N H.next rows H.blk id hi fun p hp=>(hrows p hp).1]at hb
  exact ⟨b,hb⟩
 ·intro id hi
  have:=hR.base
  exact Jj N H.next rows H.blk id (by omega) fun p hp=>(hrows p hp).1
 ·intro id x hi hx
  rw [hnew id hi]at hx
  exact .inl (hm.new _ _ (Nat.le_add_left _ _) hx)
theorem Rel.rest {P:Program}{β β':Inj}{H Hi Ho H':Heap}{w w':World} (hR:Rel P β H w) (hn:Hi.next=H.next) (hsub:∀ id b,Hi.blk.get id=some b→H.blk.get id=some b)
  (hR':Rel P β' Ho w') (hX:Ext β Hi w β' Ho w') (hn':H'.next=Ho.next) (hout:∀ id,id<H.next→Hi.blk.get id=none→H'.blk.get id=H.blk.get id)
  (hin:∀ id b,id<H.next→Hi.blk.get id=some b→H'.blk.get id=Ho.blk.get id) (hnew:∀ id b,H.next≤id→H'.blk.get id=some b→Ho.blk.get id=some b) :
  Rel P β' H' w'∧Ext β H w β' H' w':=by
 have hnx:H.next≤Ho.next:=by rw [← hn];exact hX.next
 have hle:β.le β':=fun id x hx=>by rw [hX.old id (by rw [hn];exact hR.bnd _ _ hx)];exact hx
 have hrange:∀ c,Range β Hi c→Range β H c:=fun c ⟨i,b,x,h1,h2,h3⟩=>⟨i,b,x,h1,hsub _ _ h2,h3⟩
 have split:∀ id b,H'.blk.get id=some b→(id<H.next∧Hi.blk.get id=none∧H.blk.get id=some b)∨(Ho.blk.get id=some b∧(id<H.next→∃ b',Hi.blk.get id=some b')):=by
  intro id b hb
  by_cases hid:id<H.next
  ·cases hh:Hi.blk.get id with
   | none=>exact .inl ⟨hid,rfl,by rw [← hout id hid hh];exact hb⟩
   | some b'=>exact .inr ⟨by rw [← hin id b' hid hh];exact hb,fun _=>⟨b',rfl⟩⟩
  ·exact .inr ⟨hnew id b (by omega) hb,fun h=>absurd h hid⟩
 have old:∀ id x,id<H.next→β' id=some x→β id=some x:=fun id x hid hx=>by rw [← hX.old id (by rw [hn];exact hid)];exact hx
 have apart:∀ id b x,Hi.blk.get id=none→H.blk.get id=some b→β id=some x→¬ Range β Hi x.1:=by
  intro id b x h1 h2 h3 ⟨i,b',y,h0,h4,h5,h6⟩
  have:=hR.Ja (.inl h0) (hsub _ _ h4) h5 h2 h3 h6
  subst this
  rw [h1]at h4;cases h4
 have mixed:∀ id b x j c y,id<H.next→Hi.blk.get id=none→H.blk.get id=some b→β' id=some x→Ho.blk.get j=some c→(j<H.next→∃ b',Hi.blk.get j=some b')→β' j=some y→x.1=y.1→id<100∧j<100:=by
  intro id b x j c y h1 h2 h3 h4 h5 h6 h7 e
  have h4':=old id x h1 h4
  by_cases hj:j<H.next
  ·obtain ⟨b',hb'⟩:=h6 hj
   rcases hR.inj _ _ _ _ _ _ h3 h4' (hsub _ _ hb') (old j y hj h7) e with this | this
   ·subst this
    rw [h2]at hb';cases hb'
   ·exact this
  ·rcases hX.new j y (by rw [hn];omega) h7 with h8 | h8
   ·have:=(hR.blk id b x h3 h4').lt;omega
   ·exact absurd (by rw [e];exact h8) (apart id b x h2 h3 h4')
 refine ⟨⟨by rw [hn'];exact Nat.le_trans hR.base hnx,?_,?_,fun id x hx=>by rw [hn'];exact hR'.bnd id x hx,?_⟩,⟨fun id hid=>hX.old id (by rw [hn];exact hid),by rw [hn'];exact hnx,?_,?_,?_,?_,?_,hX.size,hX.tape,hX.os,hX.output⟩⟩
 ·intro id b x hb hx
  rcases split id b hb with ⟨a1,a2,a3⟩ | ⟨a1,_⟩
  ·have hx':=old id x a1 hx
   have hbr:=hR.blk id b x a3 hx'
   exact (hbr.mono hle).heap (hX.frame _ hbr.lt (apart id b x a2 a3 hx'))
  ·exact hR'.blk id b x a1 hx
 ·intro i j b c x y hb hx hc hy e
  rcases split i b hb with ⟨a1,a2,a3⟩ | ⟨a1,a2⟩<;>rcases split j c hc with ⟨b1,b2,b3⟩ | ⟨b1,b2⟩
  ·exact hR.inj i j b c x y a3 (old i x a1 hx) b3 (old j y b1 hy) e
  ·exact .inr (mixed i b x j c y a1 a2 a3 hx b1 b2 hy e)
  ·exact .inr (mixed j c y i b x b1 b2 b3 hy a1 a2 hx e.symm).symm
  ·exact hR'.inj i j b c x y a1 hx b1 hy e
 ·intro id b hb
  rw [hn']
  rcases split id b hb with ⟨a1,_,_⟩ | ⟨a1,_⟩
  ·omega
  ·exact hR'.live id b a1
 ·intro id hid hb
  cases hh:Hi.blk.get id with
  | none=>exact hout id hid hh
  | some b'=>rw [hin id b' hid hh,hX.apart id (by rw [hn];exact hid) hb,hh,hsub _ _ hh]
 ·intro id b hid hb
  rcases split id b hb with ⟨_,_,a3⟩ | ⟨_,a2⟩
  ·exact ⟨b,a3⟩
  ·obtain ⟨b',hb'⟩:=a2 hid
   exact ⟨b',hsub _ _ hb'⟩
 ·intro id hid
  have hlt:id<H.next:=Nat.lt_of_lt_of_le hid hR.base
  cases hh:Hi.blk.get id with
  | none=>exact hout id hlt hh
  | some b'=>rw [hin id b' hlt hh,hX.ro id hid,hh,hsub _ _ hh]
 ·intro id x hid hx
  rcases hX.new id x (by rw [hn];exact hid) hx with h | h
  ·exact .inl h
  ·exact .inr (hrange _ h)
 ·intro c hc hr
  exact hX.frame c hc fun h=>hr (hrange _ h)
theorem Rel.part {P:Program}{β:Inj}{H Hi:Heap}{w:World} (hR:Rel P β H w) (hn:Hi.next=H.next) (hsub:∀ id b,Hi.blk.get id=some b→H.blk.get id=some b):Rel P β Hi w where
 base:=by rw [hn];exact hR.base
 blk:=fun id b x h1 h2=>hR.blk id b x (hsub _ _ h1) h2
 inj:=fun i j b c x y h1 h2 h3 h4 e=>hR.inj i j b c x y (hsub _ _ h1) h2 (hsub _ _ h3) h4 e
 bnd:=fun id x h=>by rw [hn];exact hR.bnd id x h
 live:=fun id b h=>by rw [hn];exact hR.live id b (hsub _ _ h)
theorem Kq {t:Tr zJ}:∀ {l:List (Nat×zJ)},bA t l=true→∀ p∈l,t.get p.1=some p.2
 | [],_,p,hp=>by cases hp
 | q::l,h,p,hp=>by
  have h:zH (zt (t.get q.1) false fun b=>Yb b q.2) (bA t l)=true:=h
  rw [zB,Bool.and_eq_true]at h
  rcases List.mem_cons.1 hp with rfl | hp
  ·cases hg:t.get p.1 with
   | none=>rw [hg]at h;exact absurd h.1 (by simp)
   | some b=>rw [hg]at h;rw [Xk h.1]
  ·exact Kq h.2 p hp
theorem rO {g:FuncId}{as:List zd}{H:Heap}{q:zd×Heap}{f:Fact} (h:lB g as H f=some q) :
  ∃ rin rout n,f = .memo g as H.next rin rout q.1 n∧q.2=WE H rin rout n∧∀ p∈rin,H.blk.get p.1=some p.2:=by
 cases f
 case memo h' bs nx rin rout r n=>
  obtain ⟨h1,h⟩:=zl h
  simp only [zB,Bool.and_eq_true,zG,beq_iff_eq]at h1
  obtain ⟨a1,a2,a3,a4⟩:=h1
  have a2:=jZ _ _ a2
  cases h
  subst a1;subst a2;subst a3
  exact ⟨rin,rout,n,rfl,rfl,Kq a4⟩
 all_goals cases h
theorem im {E:Env}{β:Inj} (hF:qd E β) {H:Heap}{w:World} (hR:Rel E.P β H w) {a p:zd} (h:Vz E H a p=true) (ha:WF β a):tF β w p (zh β a):=by
 unfold Vz at h
 unfold tF
 cases hp:yL p with
 | none=>
  rw [hp,zm]at h
  have:=zX _ _ h
  subst this
  exact ⟨ha,rfl⟩
 | some q=>
  rw [hp,zg,zu]at h
  split at h
  case isFalse=>cases h
  rename_i hs
  cases ht:Qx E H a with
  | none=>rw [ht]at h;cases h
  | some v=>
   rw [ht,zg]at h
   have hv:=zX _ _ h
   suffices key:WF β v∧∃ s b o cap,zh β v = .string s∧zh β a = .slice (some ⟨b,o,none⟩) s.size cap∧s.size≤cap∧∀ i (c:UInt8),s.data[i]? = some c→w.cell? ⟨b,o+i,none⟩=some (.int .u8 c.toNat) by
    rw [hv]at key
    exact key
   clear hv h
   unfold Qx at ht
   cases hr:yL a with
   | some r=>
    rw [hr,zg]at ht
    have:=ZD hr
    subst this
    obtain ⟨b,hb,ht⟩:=zf ht
    obtain ⟨t,htx,ht⟩:=zf ht
    obtain ⟨e1,ht⟩:=zl ht
    cases ht
    have e1:=zX _ _ e1
    have:=Wf htx
    subst this
    obtain ⟨w1,w2,s,w3,w4⟩:=ha
    obtain ⟨arr,fz,a1,a2⟩:=hR.ff hb w1
    exact ⟨w2,s,β.blk r.1,β.sh r.1,β.ext r.1,w3,by simp [zh,w3,sOf,Inj.addr],w4,fun i c hc=>by
     rw [cell_of a1]
     exact a2.cell i c (by rw [e1,w3];exact hc)⟩
   | none=>
    rw [hr,zm]at hs ht
    cases hr2:jN a with
    | none=>rw [hr2]at hs;cases hs
    | some q'=>
     rw [hr2,zg]at ht
     have:=jo hr2
     subst this
     have hle:q'.len≤(if q'.ex then q'.cap else q'.cap+β.ext q'.b):=by have:=ha.2;split<;>omega
     rcases UG hF ht with ⟨h0,rfl⟩ | ⟨cs,hl,key⟩
     ·exact ⟨by simp [WF],.empty,β.blk q'.b,β.sh q'.b+q'.off,(if q'.ex then q'.cap else q'.cap+β.ext q'.b),rfl,by simp only [zh,Inj.addr,h0];rfl,by rw [h0]at hle;exact hle,fun i c hc=>by simp at hc⟩
     ·obtain ⟨u,k1,k2,k3⟩:=key
      obtain ⟨r,hrow,hl⟩:=zf hl
      obtain ⟨g1,g2⟩:=Tr.kh _ _ _ _ hl
      have hlen:u.size=q'.len:=by
       have:=congrArg List.length k3
       rw [zK,List.length_map,List.length_map,g1]at this
       exact this.symm
      refine ⟨k1,u,β.blk q'.b,β.sh q'.b+q'.off,(if q'.ex then q'.cap else q'.cap+β.ext q'.b),k2,by simp only [zh,Inj.addr,hlen],by rw [hlen];exact hle,fun i c hc=>?_⟩
      have hi:=(Array.getElem?_eq_some_iff.1 hc).1
      have hi:i<u.size:=hi
      have h1:=congrArg (fun l:List Value=>l[i]?) k3
      simp only [zK,List.getElem?_map,Array.getElem?_toList,hc,Option.map_some]at h1
      cases hx:cs[i]? with
      | none=>rw [hx]at h1;cases h1
      | some x=>
       rw [hx]at h1
       have h1:zh β x = .int .u8 c.toNat:=Option.some.inj h1
       have h2:=(hR.cell hrow ha.1 (by rw [g2 i (by omega)];exact hx)).1
       rw [h1]at h2
       rw [← h2,Inj.addr,Nat.add_assoc]
theorem KU {E:Env}{β:Inj} (hF:qd E β) {H:Heap}{w:World} (hR:Rel E.P β H w):∀ {l m:List zd},Vy E H l m=true→WFs β l→iL β w m (zq β l)
 | [],[],_,_=>trivial
 | [],_::_,h,_=>by cases h
 | _::_,[],h,_=>by cases h
 | a::l,p::m,h,hw=>by
  have h:zH (Vz E H a p) (Vy E H l m)=true:=h
  rw [zB,Bool.and_eq_true]at h
  exact ⟨im hF hR h.1 hw.1,KU hF hR h.2 hw.2⟩
theorem rL {E:Env}{g:FuncId}{as:List zd}{H:Heap}{r:zd}{f:Fact} (h:lz E g as H f=some r):∃ bs,f = .read g bs r∧Vy E H as bs=true:=by
 cases f
 case read h' bs r'=>
  obtain ⟨h1,h⟩:=zl h
  rw [zB,Bool.and_eq_true,zG,beq_iff_eq]at h1
  cases h
  exact ⟨bs,by rw [h1.1],h1.2⟩
 all_goals cases h
end
section
variable [Unk]
def vy (v:zd):List zd:=match v with | .agg l=>l | _=>[]
theorem Ji (ρ:Nat→Nat):∀ l,jj ρ (.agg l) = .agg (Jh ρ l)
 | []=>rfl
 | a::l=>by
  show zd.agg (jj ρ a::vy (jj ρ (.agg l)))=_
  rw [Ji ρ l];rfl
theorem fG (ρ:Nat→Nat) (l:List zd):jj ρ (.tuple l) = .tuple (Jh ρ l):=by
 show zd.tuple (vy (jj ρ (.agg l)))=_
 rw [Ji];rfl
theorem tZ (ρ:Nat→Nat) (f:FuncId) (l m:List zd):jj ρ (.fn f l m) = .fn f (Jh ρ l) (Jh ρ m):=by
 show zd.fn f (vy (jj ρ (.agg l))) (vy (jj ρ (.agg m)))=_
 rw [Ji,Ji];rfl
def under (β:Inj) (ρ:Nat→Nat):Inj:=fun i=>β (ρ i)
mutual
theorem jI (β:Inj) (ρ:Nat→Nat):∀ v,zh β (jj ρ v)=zh (under β ρ) v∧(WF β (jj ρ v)↔WF (under β ρ) v)
 | .bool _=>⟨rfl,Iff.rfl⟩
 | .int _ _=>⟨rfl,Iff.rfl⟩
 | .str _=>⟨rfl,Iff.rfl⟩
 | .nilp=>⟨rfl,Iff.rfl⟩
 | .ptr b o=>by
  have e:jj ρ (.ptr b o) = .ptr (ρ b) o:=z7 _ _
  rw [e];exact ⟨rfl,Iff.rfl⟩
 | .nilslice=>⟨rfl,Iff.rfl⟩
 | .slice b o l c x=>by
  have e:jj ρ (.slice b o l c x) = .slice (ρ b) o l c x:=z7 _ _
  rw [e];exact ⟨rfl,Iff.rfl⟩
 | .nilmap=>⟨rfl,Iff.rfl⟩
 | .map r=>by
  have e:jj ρ (.map r) = .map (ρ r):=z7 _ _
  rw [e];exact ⟨rfl,Iff.rfl⟩
 | .fn f l m=>by
  obtain ⟨a1,a2⟩:=Zv β ρ l
  obtain ⟨b1,b2⟩:=Zv β ρ m
  have e:=tZ ρ f l m
  rw [e]
  exact ⟨by simp only [zh,a1,b1],by simp only [WF,a2,b2]⟩
 | .yieldf l=>by
  have e:jj ρ (.yieldf l) = .yieldf (ρ l):=z7 _ _
  rw [e];exact ⟨rfl,Iff.rfl⟩
 | .capv b c=>by
  have e:jj ρ (.capv b c) = .capv (ρ b) c:=z7 _ _
  rw [e];exact ⟨rfl,Iff.rfl⟩
 | .nilfn=>⟨rfl,Iff.rfl⟩
 | .iface t v=>by
  obtain ⟨a1,a2⟩:=jI β ρ v
  have e:jj ρ (.iface t v) = .iface t (jj ρ v):=rfl
  rw [e]
  exact ⟨by simp only [zh,a1],a2⟩
 | .niliface=>⟨rfl,Iff.rfl⟩
 | .agg l=>by
  obtain ⟨a1,a2⟩:=Zv β ρ l
  have e:=Ji ρ l
  rw [e]
  exact ⟨by simp only [zh,a1],a2⟩
 | .tuple l=>by
  obtain ⟨a1,a2⟩:=Zv β ρ l
  have e:=fG ρ l
  rw [e]
  exact ⟨by simp only [zh,a1],a2⟩
 | .sym i=>by
  have e:jj ρ (.sym i) = .sym (ρ i):=z7 _ _
  rw [e];exact ⟨rfl,Iff.rfl⟩
 | .esl b o q=>by
  have e:jj ρ (.esl b o q) = .esl (ρ b) o q:=z7 _ _
  rw [e];exact ⟨rfl,Iff.rfl⟩
 | .osl b v=>by
  obtain ⟨a1,a2⟩:=jI β ρ v
  have e:jj ρ (.osl b v) = .osl (ρ b) (jj ρ v):=z7 _ _
  rw [e]
  refine ⟨by simp only [zh,a1];rfl,?_⟩
  simp only [WF,a1,a2]
  exact Iff.rfl
 | .psl b o q c x=>by
  have e:jj ρ (.psl b o q c x) = .psl (ρ b) o (ρ q) c x:=(z7 _ _).trans (z7 _ _)
  rw [e];exact ⟨rfl,Iff.rfl⟩
theorem Zv (β:Inj) (ρ:Nat→Nat):∀ l,zq β (Jh ρ l)=zq (under β ρ) l∧(WFs β (Jh ρ l)↔WFs (under β ρ) l)
 | []=>⟨rfl,Iff.rfl⟩
 | v::l=>by
  obtain ⟨a1,a2⟩:=jI β ρ v
  obtain ⟨b1,b2⟩:=Zv β ρ l
  have e:Jh ρ (v::l)=jj ρ v::Jh ρ l:=rfl
  rw [e]
  exact ⟨by simp only [zq,a1,b1],by simp only [WFs,a2,b2]⟩
end
theorem lf {P:Program}{β:Inj}{ρ:Nat→Nat}{b:zJ}{x:Nat×Nat×Nat}{w:World} (hl:(yc b).isNone=true):zZ P β (da ρ b) x w↔zZ P (under β ρ) b x w:=by
 cases b with
 | cells t n c=>
  constructor
  ·rintro ⟨arr,fz,h1,h2⟩
   refine ⟨arr,fz,h1,h2.size,fun i v hv=>?_,h2.thaw,h2.al⟩
   obtain ⟨a1,a2⟩:=h2.cell i (jj ρ v) (by rw [Zl,hv];rfl)
   exact ⟨(jI β ρ v).2.1 a1,by rw [← (jI β ρ v).1];exact a2⟩
  ·rintro ⟨arr,fz,h1,h2⟩
   refine ⟨arr,fz,h1,h2.size,fun i v hv=>?_,h2.thaw,h2.al⟩
   rw [Zl]at hv
   obtain ⟨u,hu,rfl⟩:=Option.map_eq_some_iff.1 hv
   obtain ⟨a1,a2⟩:=h2.cell i u hu
   exact ⟨(jI β ρ u).2.2 a1,by rw [(jI β ρ u).1];exact a2⟩
 | map es clock=>
  have key:∀ e:zd×zd×Nat,WF (under β ρ) e.1→WH e.1=true→yI (under β ρ) e=yI β (e.1,jj ρ e.2.1,e.2.2):=fun e a2 a3=>by
   simp only [yI]
   rw [(jI β ρ _).1,(Qn (β':=β) a3 a2).2]
  constructor
  ·rintro ⟨arr,h1,h2,h3⟩
   have h4:∀ e∈es,WF (under β ρ) e.2.1∧WF (under β ρ) e.1∧WH e.1=true:=fun e he=>by
    obtain ⟨a1,a2,a3⟩:=h3 (e.1,jj ρ e.2.1,e.2.2) (by rw [jA];exact List.mem_map.2 ⟨e,he,rfl⟩)
    exact ⟨(jI β ρ _).2.1 a1,(Qn a3 a2).1,a3⟩
   refine ⟨arr,h1,?_,h4⟩
   rw [h2,jA,List.map_map]
   exact List.map_congr_left fun e he=>(key e (h4 e he).2.1 (h4 e he).2.2).symm
  ·rintro ⟨arr,h1,h2,h3⟩
   refine ⟨arr,h1,?_,?_⟩
   ·rw [h2,jA,List.map_map]
    exact List.map_congr_left fun e he=>key e (h3 e he).2.1 (h3 e he).2.2
   ·intro e he
    rw [jA]at he
    obtain ⟨u,hu,rfl⟩:=List.mem_map.1 he
    obtain ⟨a1,a2,a3⟩:=h3 u hu
    exact ⟨(jI β ρ _).2.2 a1,(Qn a3 a2).1,a3⟩
 | loop a b c e f g h i=>cases hl
 | siter s p=>exact Iff.rfl
 | text t v=>
  obtain ⟨a1,a2⟩:=jI β ρ v
  constructor
  ·rintro ⟨arr,fz,h1,h2⟩
   exact ⟨arr,fz,h1,a2.1 h2.wf,by rw [← a1];exact h2.is,h2.size,by rw [← a1];exact h2.cell,h2.thaw,h2.one⟩
  ·rintro ⟨arr,fz,h1,h2⟩
   exact ⟨arr,fz,h1,a2.2 h2.wf,by rw [a1];exact h2.is,h2.size,by rw [a1];exact h2.cell,h2.thaw,h2.one⟩
 | ints t v=>
  obtain ⟨a1,a2⟩:=jI β ρ v
  constructor
  ·rintro ⟨arr,fz,h1,h2⟩
   exact ⟨arr,fz,h1,a2.1 h2.wf,by rw [← a1];exact h2.is,h2.size,by rw [← a1];exact h2.cell,h2.thaw,h2.one⟩
  ·rintro ⟨arr,fz,h1,h2⟩
   exact ⟨arr,fz,h1,a2.2 h2.wf,by rw [a1];exact h2.is,h2.size,by rw [a1];exact h2.cell,h2.thaw,h2.one⟩
 | view c=>
  constructor
  ·rintro ⟨arr,t,fz,h1,h2⟩
   refine ⟨arr,t,fz,h1,fun i v hv=>?_⟩
   have h3:=h2 i (jj ρ v) (by show (Qm (jj ρ) c).get i=_;rw [Zl,hv];rfl)
   obtain ⟨a1,a2⟩:=jI β ρ v
   exact ⟨a2.1 h3.1,by rw [← a1];exact h3.2⟩
  ·rintro ⟨arr,t,fz,h1,h2⟩
   refine ⟨arr,t,fz,h1,fun i v hv=>?_⟩
   have hv:(Qm (jj ρ) c).get i=some v:=hv
   rw [Zl]at hv
   obtain ⟨u,hu,rfl⟩:=Option.map_eq_some_iff.1 hv
   obtain ⟨a1,a2⟩:=jI β ρ u
   obtain ⟨b1,b2⟩:=h2 i u hu
   exact ⟨a2.2 b1,by rw [a1];exact b2⟩
 | pack t n N=>
  constructor
  ·rintro ⟨arr,fz,h1,h2⟩
   exact ⟨arr,fz,h1,h2.bytes⟩
  ·rintro ⟨arr,fz,h1,h2⟩
   exact ⟨arr,fz,h1,h2.bytes⟩
theorem V1:∀ (l:List (Nat×zJ)) (t:Tr zJ) (id:Nat) (b:zJ),(j5 l t).get id=some b→(id,b)∈l∨((∀ p∈l,p.1≠id)∧t.get id=some b)
 | [],t,id,b,h=>.inr ⟨by simp,h⟩
 | p::l,t,id,b,h=>by
  have h:((j5 l t).set p.1 p.2).get id=some b:=h
  rw [Tr.zR]at h
  by_cases hp:p.1=id
  ·rw [if_pos hp]at h
   cases h
   subst hp
   exact .inl List.mem_cons_self
  ·rw [if_neg hp]at h
   rcases V1 l t id b h with h | ⟨h1,h2⟩
   ·exact .inl (List.mem_cons_of_mem _ h)
   ·refine .inr ⟨fun q hq=>?_,h2⟩
    rcases List.mem_cons.1 hq with rfl | hq
    ·exact hp
    ·exact h1 q hq
theorem Yh:∀ (l:List (Nat×zJ)) (t:Tr zJ) (id:Nat),(∀ p∈l,p.1≠id)→(j5 l t).get id=t.get id
 | [],_,_,_=>rfl
 | p::l,t,id,h=>by
  show ((j5 l t).set p.1 p.2).get id=_
  rw [Tr.zR,if_neg (h p List.mem_cons_self)]
  exact Yh l t id fun q hq=>h q (List.mem_cons_of_mem _ hq)
theorem aj:∀ (l:List (Nat×zJ)) (t:Tr zJ) (p:Nat×zJ),p∈l→(bH l t).get p.1=none
 | q::l,t,p,h=>by
  show ((bH l t).del q.1).get p.1=_
  rw [Tr.jn]
  by_cases hp:q.1=p.1
  ·exact if_pos hp
  ·rw [if_neg hp]
   rcases List.mem_cons.1 h with rfl | h
   ·exact absurd rfl hp
   ·exact aj l t p h
theorem gn {c x:Bool} (h:ifB c x false=true):c=true∧x=true:=by
 cases c with
 | true=>exact ⟨rfl,h⟩
 | false=>cases h
theorem YQ {ρ:Nat→Nat}{v:zd} (h:fS v=true):jj ρ v=v:=by
 cases v<;>first | rfl | cases h
theorem UY {ρ:Nat→Nat}:∀ {t:Tr zd},dz t=true→Qm (jj ρ) t=t:=by
 intro t
 induction t with
 | nil=>intro _;rfl
 | node l v r ihl ihr=>
  intro h
  have h:ifB (zt v true fS) (ifB (dz l) (dz r) false) false=true:=h
  obtain ⟨h1,h⟩:=gn h
  obtain ⟨h2,h3⟩:=gn h
  have e:Qm (jj ρ) (.node l v r) = .node (Qm (jj ρ) l) (zt v none fun a=>some (jj ρ a)) (Qm (jj ρ) r):=rfl
  rw [e,ihl h2,ihr h3]
  cases v with
  | none=>rfl
  | some a=>rw [zg,YQ h1]
theorem UZ {ρ:Nat→Nat}:∀ {es:Xu},rj es=true→mapA (fun e=>(e.1,jj ρ e.2.1,e.2.2)) es=es
 | [],_=>rfl
 | e::es,h=>by
  have h:ifB (fS e.2.1) (rj es) false=true:=h
  obtain ⟨h1,h2⟩:=gn h
  have e1:mapA (fun e:zd×zd×Nat=>(e.1,jj ρ e.2.1,e.2.2)) (e::es)=(e.1,jj ρ e.2.1,e.2.2)::mapA (fun e=>(e.1,jj ρ e.2.1,e.2.2)) es:=rfl
  rw [e1,UZ h2,YQ h1]
theorem ld (ρ:Nat→Nat) (b:zJ):pH ρ b=da ρ b:=by
 unfold pH
 rw [zu]
 split
 ·rename_i h
  cases b with
  | cells t n c=>exact congrArg (zJ.cells t n) (UY h).symm
  | map es k=>
   exact congrArg (zJ.map · k) (UZ h).symm
  | loop=>rfl
  | siter=>rfl
  | text t v=>exact congrArg (zJ.text t) (YQ h).symm
  | pack=>rfl
  | ints t v=>exact congrArg (zJ.ints t) (YQ h).symm
  | view c=>exact congrArg zJ.view (UY h).symm
 ·rfl
theorem Jk (ρ:Nat→Nat) (p:Nat×zJ) (l:List (Nat×zJ)) (t:Tr zJ):Jl ρ (p::l) t=(Jl ρ l t).set (ρ p.1) (da ρ p.2):=by
 rw [← ld];exact z7 _ _
theorem Yg (ρ:Nat→Nat):∀ (l:List (Nat×zJ)) (t:Tr zJ) (id:Nat) (b:zJ),(Jl ρ l t).get id=some b→(∃ p∈l,id=ρ p.1∧b=da ρ p.2)∨((∀ p∈l,ρ p.1≠id)∧t.get id=some b)
 | [],t,id,b,h=>.inr ⟨by simp,h⟩
 | p::l,t,id,b,h=>by
  have e:=Jk ρ p l t
  rw [e,Tr.zR]at h
  by_cases hp:ρ p.1=id
  ·rw [if_pos hp]at h
   cases h
   exact .inl ⟨p,List.mem_cons_self,hp.symm,rfl⟩
  ·rw [if_neg hp]at h
   rcases Yg ρ l t id b h with ⟨q,hq,h1,h2⟩ | ⟨h1,h2⟩
   ·exact .inl ⟨q,List.mem_cons_of_mem _ hq,h1,h2⟩
   ·refine .inr ⟨fun q hq=>?_,h2⟩
    rcases List.mem_cons.1 hq with rfl | hq
    ·exact hp
    ·exact h1 q hq
theorem UR (ρ:Nat→Nat):∀ (l:List (Nat×zJ)) (t:Tr zJ) (p:Nat×zJ),p∈l→∃ b,(Jl ρ l t).get (ρ p.1)=some b
 | q::l,t,p,h=>by
  have e:=Jk ρ q l t
  rw [e,Tr.zR]
  by_cases hp:ρ q.1=ρ p.1
  ·exact ⟨_,if_pos hp⟩
  ·rw [if_neg hp]
   rcases List.mem_cons.1 h with rfl | h
   ·exact absurd rfl hp
   ·exact UR ρ l t p h
theorem Yf (ρ:Nat→Nat):∀ (l:List (Nat×zJ)) (t:Tr zJ) (id:Nat),(∀ p∈l,ρ p.1≠id)→(Jl ρ l t).get id=t.get id
 | [],_,_,_=>rfl
 | p::l,t,id,h=>by
  have e:=Jk ρ p l t
  rw [e,Tr.zR,if_neg (h p List.mem_cons_self)]
  exact Yf ρ l t id fun q hq=>h q (List.mem_cons_of_mem _ hq)
theorem QO (ρ:Nat→Nat):∀ (l:List (Nat×zJ)) (t:Tr zJ) (id:Nat),(∀ p∈l,ρ p.1≠id)→(Qd ρ l t).get id=t.get id
 | [],_,_,_=>rfl
 | p::l,t,id,h=>by
  have e:Qd ρ (p::l) t=(Qd ρ l t).del (ρ p.1):=z7 _ _
  rw [e,Tr.jn,if_neg (h p List.mem_cons_self)]
  exact QO ρ l t id fun q hq=>h q (List.mem_cons_of_mem _ hq)
theorem ah (ρ:Nat→Nat):∀ (l:List (Nat×zJ)) (t:Tr zJ) (p:Nat×zJ),p∈l→(Qd ρ l t).get (ρ p.1)=none
 | q::l,t,p,h=>by
  have e:Qd ρ (q::l) t=(Qd ρ l t).del (ρ q.1):=z7 _ _
  rw [e,Tr.jn]
  by_cases hp:ρ q.1=ρ p.1
  ·exact if_pos hp
  ·rw [if_neg hp]
   rcases List.mem_cons.1 h with rfl | h
   ·exact absurd rfl hp
   ·exact ah ρ l t p h
theorem gf {P:Program}{zW:List (Nat×zJ)}{β0 β:Inj}{f:FuncId}{args:List zd}{nx:Nat}{rin rout:List (Nat×zJ)}{r:zd}{n:Nat}
  (hM:Ua P zW β0 f args nx rin rout r n) (hle:β0.le β) {H:Heap}{w:World} (hR:Rel P β H w) (hat:∀ g,g<100→β g=some (Unk.place g))
  (htabs:∀ p∈zW,p.1<100∧H.blk.get p.1=some p.2) (htab:∀ p∈zW,tB P p.2∧(js zW).get p.1=some p.2)
  {ρ:Nat→Nat}{N:Nat} (h60:100≤N) (hN:N≤nx) (hlow:∀ id,N≤id→β0 id=none) (r1:∀ id,id<N→ρ id=id) (r2:∀ id,id<nx→ρ id<H.next) (r3:∀ id,nx≤id→ρ id=H.next+(id-nx))
  (hrin:∀ p∈rin,N≤p.1∧p.1<nx∧100≤ρ p.1∧(yc p.2).isNone=true∧H.blk.get (ρ p.1)=some (da ρ p.2)) (r4:∀ p∈rin,∀ q∈rin,ρ p.1=ρ q.1→p.1=q.1)
  (hself:∀ p∈rin,(j5 rin (js zW)).get p.1=some p.2) (hrout:∀ p∈rout,N≤p.1∧(yc p.2).isNone=true) (hself2:∀ t,∀ p∈rout,(j5 rout t).get p.1=some p.2) (hargs:WFs β (Jh ρ args)) :
  Calls P f (zq β (Jh ρ args)).toArray w fun e w2=>∃ γ,e = .returned (zh γ (jj ρ r))∧WF γ (jj ρ r)∧Rel P γ (Vn ρ H rin rout (H.next+(n-nx))) w2∧Ext β H w γ (Vn ρ H rin rout (H.next+(n-nx))) w2:=by
 have h1:∀ id,nx≤id→under β ρ id=none:=fun id hid=>by
  cases hx:under β ρ id with
  | none=>rfl
  | some x=>have:=hR.bnd _ _ hx;rw [r3 id hid]at this;omega
 have hsm:∀ id,id<100→ρ id=id:=fun id hid=>r1 id (by omega)
 have hin:∀ id b,(j5 rin (js zW)).get id=some b→(∃ p∈rin,p.1=id∧p.2=b)∨(id<100∧tB P b∧H.blk.get id=some b):=by
  intro id b hb
  rcases V1 rin _ id b hb with hm | ⟨_,hm⟩
  ·exact .inl ⟨_,hm,rfl,rfl⟩
  ·have hm':=JE _ _ _ hm
   exact .inr ⟨(htabs _ hm').1,(htab _ hm').1,(htabs _ hm').2⟩
 let H1:Heap:=⟨j5 rin (js zW),nx⟩
 have hH:∀ id b,H1.blk.get id=some b→∃ c,H.blk.get (ρ id)=some c:=by
  intro id b hb
  rcases hin id b hb with ⟨p,hp,rfl,rfl⟩ | ⟨h2,_,h3⟩
  ·exact ⟨_,(hrin p hp).2.2.2.2⟩
  ·rw [hsm id h2];exact ⟨_,h3⟩
 have hat1:∀ g,g<100→under β ρ g=some (Unk.place g):=fun g hg=>by unfold under;rw [hsm g hg];exact hat g hg
 have hinjρ:∀ i j b c,H1.blk.get i=some b→H1.blk.get j=some c→ρ i=ρ j→i=j:=by
  intro i j b c hb hc e
  rcases hin i b hb with ⟨p,hp,rfl,rfl⟩ | ⟨h2,_,_⟩<;>rcases hin j c hc with ⟨q,hq,rfl,rfl⟩ | ⟨h3,_,_⟩
  ·exact r4 p hp q hq e
  ·rw [hsm j h3]at e;have:=(hrin p hp).2.2.1;omega
  ·rw [hsm i h2]at e;have:=(hrin q hq).2.2.1;omega
  ·rwa [hsm i h2,hsm j h3]at e
 have hR1:Rel P (under β ρ) H1 w:=by
  refine ⟨Nat.le_trans h60 hN,?_,?_,?_,?_⟩
  ·intro id b x hb hx
   rcases hin id b hb with ⟨p,hp,rfl,rfl⟩ | ⟨h2,h3,h4⟩
   ·exact (lf (hrin p hp).2.2.2.1).1 (hR.blk _ _ x (hrin p hp).2.2.2.2 hx)
   ·have hx':β id=some x:=by rw [← hsm id h2];exact hx
    exact h3 _ _ _ _ hat hat1 (hR.blk id b x h4 hx')
  ·intro i j b c x y hb hx hc hy e
   obtain ⟨b',hb'⟩:=hH i b hb
   obtain ⟨c',hc'⟩:=hH j c hc
   rcases hR.inj _ _ _ _ _ _ hb' hx hc' hy e with h | ⟨h,h'⟩
   ·exact .inl (hinjρ i j b c hb hc h)
   ·refine .inr ⟨?_,?_⟩
    ·rcases hin i b hb with ⟨p,hp,rfl,rfl⟩ | ⟨h2,_,_⟩
     ·have:=(hrin p hp).2.2.1;omega
     ·exact h2
    ·rcases hin j c hc with ⟨p,hp,rfl,rfl⟩ | ⟨h2,_,_⟩
     ·have:=(hrin p hp).2.2.1;omega
     ·exact h2
  ·intro id x hx
   show id<nx
   rcases Nat.lt_or_ge id nx with h | h
   ·exact h
   ·rw [h1 id h]at hx;cases hx
  ·intro id b hb
   show id<nx
   rcases hin id b hb with ⟨p,hp,rfl,rfl⟩ | ⟨h2,_,_⟩
   ·exact (hrin p hp).2.1
   ·omega
 have hle1:β0.le (under β ρ):=fun id x hx=>by
  have:id<N:=by
   rcases Nat.lt_or_ge id N with h | h
   ·exact h
   ·rw [hlow id h]at hx;cases hx
  unfold under
  rw [r1 id this]
  exact hle id x hx
 have htabs1:∀ p∈zW,p.1<100∧H1.blk.get p.1=some p.2:=fun p hp=>by
  refine ⟨(htabs p hp).1,?_⟩
  show (j5 rin (js zW)).get p.1=_
  rw [Yh rin _ _ fun q hq e=>by have:=(hrin q hq).1;have:=(htabs p hp).1;omega]
  exact (htab p hp).2
 have hcall:=hM (under β ρ) H1 w hle1 hR1 hat1 htabs1 rfl hself ((Zv β ρ args).2.1 hargs)
 rw [← (Zv β ρ args).1]at hcall
 refine hcall.mono fun e w2 hx=>?_
 obtain ⟨γ,rfl,a1,a2,a3⟩:=hx
 have hnn:nx≤n:=a3.next
 let γ':Inj:=fun id=>if id<H.next then β id else γ (id-H.next+nx)
 have hlt:∀ id,id<H.next→γ' id=β id:=fun id h=>if_pos h
 have hge:∀ id,H.next≤id→γ' id=γ (id-H.next+nx):=fun id h=>if_neg (by omega)
 have hpull:under γ' ρ=γ:=by
  funext id
  rcases Nat.lt_or_ge id nx with h | h
  ·show γ' (ρ id)=γ id
   rw [hlt _ (r2 id h),a3.old id h]
   rfl
  ·show γ' (ρ id)=γ id
   rw [r3 id h,hge _ (Nat.le_add_right _ _)]
   congr 1
   omega
 have hv:=jI γ' ρ r
 rw [hpull]at hv
 have hleγ:β.le γ':=fun id x hx=>by rw [hlt id (hR.bnd _ _ hx)];exact hx
 have hrange:∀ c,Range (under β ρ) H1 c→Range β H c:=by
  rintro c ⟨id,b,x,g1,g2,g3,rfl⟩
  rcases hin id b g2 with ⟨p,hp,rfl,rfl⟩ | ⟨h2,_,_⟩
  ·exact ⟨ρ p.1,_,x,(hrin p hp).2.2.1,(hrin p hp).2.2.2.2,g3,rfl⟩
  ·omega
 have hget1:∀ p∈rout,(WE H1 rin rout n).blk.get p.1=some p.2:=fun p hp=>hself2 _ p hp
 have hgetn:∀ id,(∀ p∈rout,p.1≠id)→(∃ p∈rin,p.1=id)→(WE H1 rin rout n).blk.get id=none:=by
  rintro id h ⟨p,hp,rfl⟩
  show (j5 rout (bH rin H1.blk)).get p.1=none
  rw [Yh rout _ _ h,aj rin _ p hp]
 have hold:∀ p∈rout,p.1<nx→∃ q∈rin,q.1=p.1:=by
  intro p hp hlt'
  obtain ⟨b',hb'⟩:=a3.gone p.1 p.2 hlt' (hget1 p hp)
  rcases hin p.1 b' hb' with ⟨q,hq,h2,_⟩ | ⟨h2,_,_⟩
  ·exact ⟨q,hq,h2⟩
  ·have:=(hrout p hp).1;omega
 have hinj2:∀ p∈rout,∀ q∈rout,ρ p.1=ρ q.1→p.1=q.1:=by
  intro p hp q hq e
  rcases Nat.lt_or_ge p.1 nx with hp' | hp'<;>rcases Nat.lt_or_ge q.1 nx with hq' | hq'
  ·obtain ⟨p2,m1,m2⟩:=hold p hp hp'
   obtain ⟨q2,n1,n2⟩:=hold q hq hq'
   rw [← m2,← n2]at e ⊢
   exact r4 _ m1 _ n1 e
  ·have:=r2 _ hp';have:=r3 _ hq';omega
  ·have:=r2 _ hq';have:=r3 _ hp';omega
  ·have:=r3 _ hq';have:=r3 _ hp';omega
 let H2:Heap:=Vn ρ H rin rout (H.next+(n-nx))
 have hget2:∀ id b,H2.blk.get id=some b→(∃ p∈rout,id=ρ p.1∧b=da ρ p.2)∨((∀ p∈rout,ρ p.1≠id)∧(∀ p∈rin,ρ p.1≠id)∧H.blk.get id=some b):=by
  intro id b hb
  rcases Yg ρ rout _ id b hb with h | ⟨h,hb'⟩
  ·exact .inl h
  ·by_cases hm:∃ p∈rin,ρ p.1=id
   ·obtain ⟨p,hp,rfl⟩:=hm
    rw [ah ρ rin _ p hp]at hb';cases hb'
   ·have hm:∀ p∈rin,ρ p.1≠id:=fun p hp e=>hm ⟨p,hp,e⟩
    rw [QO ρ rin _ id hm]at hb'
    exact .inr ⟨h,hm,hb'⟩
 have hγp:∀ p,γ' (ρ p)=γ p:=fun p=>congrFun hpull p
 have hnotR:∀ id b x,H.blk.get id=some b→β id=some x→(∀ p∈rin,ρ p.1≠id)→¬ Range (under β ρ) H1 x.1:=by
  rintro id b x hb hx hno ⟨i,c,y,g1,g2,g3,g4⟩
  rcases hin i c g2 with ⟨p,hp,rfl,rfl⟩ | ⟨h2,_,_⟩
  ·exact hno p hp (hR.Ja (.inl (hrin p hp).2.2.1) (hrin p hp).2.2.2.2 g3 hb hx g4)
  ·omega
 have hcross:∀ p∈rout,∀ j c x y,γ p.1=some x→H.blk.get j=some c→β j=some y→(∀ q∈rin,ρ q.1≠j)→x.1≠y.1:=by
  intro p hp j c x y hx hc hy hno e
  rcases Nat.lt_or_ge p.1 nx with hp' | hp'
  ·obtain ⟨q,hq,hqe⟩:=hold p hp hp'
   have hx':β (ρ p.1)=some x:=by rw [← hlt _ (r2 _ hp'),hγp];exact hx
   rw [← hqe]at hx'
   exact hno q hq (hR.Ja (.inl (hrin q hq).2.2.1) (hrin q hq).2.2.2.2 hx' hc hy e)
  ·rcases a3.new p.1 x hp' hx with h | h
   ·have:=(hR.blk j c y hc hy).lt;omega
   ·rw [e]at h;exact hnotR j c y hc hy hno h
 refine ⟨γ',by rw [hv.1],hv.2.2 a1,⟨?_,?_,?_,?_,?_⟩,⟨?_,?_,?_,?_,?_,?_,?_,a3.size,a3.tape,a3.os,a3.output⟩⟩
 ·show 100≤H.next+(n-nx)
  have:=hR.base;omega
 ·intro id b x hb hx
  rcases hget2 id b hb with ⟨p,hp,rfl,rfl⟩ | ⟨_,h3,h4⟩
  ·rw [hγp]at hx
   refine (lf (hrout p hp).2).2 ?_
   rw [hpull]
   exact a2.blk p.1 p.2 x (hget1 p hp) hx
  ·have hid:=hR.live _ _ h4
   rw [hlt id hid]at hx
   have hb0:=hR.blk id b x h4 hx
   exact (hb0.heap (a3.frame x.1 hb0.lt (hnotR id b x h4 hx h3))).mono hleγ
 ·intro i j b c x y hb hx hc hy e
  rcases hget2 i b hb with ⟨p,hp,rfl,rfl⟩ | ⟨_,g3,g4⟩<;>rcases hget2 j c hc with ⟨q,hq,rfl,rfl⟩ | ⟨_,k3,k4⟩
  ·rw [hγp]at hx hy
   exact .inl (by rw [a2.Ja (.inl (Nat.le_trans h60 (hrout p hp).1)) (hget1 p hp) hx (hget1 q hq) hy e])
  ·rw [hγp]at hx
   rw [hlt j (hR.live _ _ k4)]at hy
   exact absurd e (hcross p hp j c x y hx k4 hy k3)
  ·rw [hγp]at hy
   rw [hlt i (hR.live _ _ g4)]at hx
   exact absurd e.symm (hcross q hq i b y x hy g4 hx g3)
  ·rw [hlt i (hR.live _ _ g4)]at hx
   rw [hlt j (hR.live _ _ k4)]at hy
   exact hR.inj i j b c x y g4 hx k4 hy e
 ·intro id x hx
  show id<H.next+(n-nx)
  rcases Nat.lt_or_ge id H.next with h | h
  ·omega
  ·rw [hge id h]at hx
   have:id-H.next+nx<n:=a2.bnd _ _ hx
   omega
 ·intro id b hb
  show id<H.next+(n-nx)
  rcases hget2 id b hb with ⟨p,hp,rfl,_⟩ | ⟨_,_,h4⟩
  ·have h5:p.1<n:=a2.live _ _ (hget1 p hp)
   rcases Nat.lt_or_ge p.1 nx with h | h
   ·have:=r2 _ h;omega
   ·have:=r3 _ h;omega
  ·have:=hR.live _ _ h4;omega
 ·exact hlt
 ·exact Nat.le_add_right _ _
 ·intro id hid hno
  show (Jl ρ rout (Qd ρ rin H.blk)).get id=_
  by_cases hm:∃ p∈rin,ρ p.1=id
  ·obtain ⟨p,hp,rfl⟩:=hm
   have h2:(WE H1 rin rout n).blk.get p.1=H1.blk.get p.1:=a3.apart p.1 (hrin p hp).2.1 hno
   rw [show H1.blk.get p.1=some p.2 from hself p hp]at h2
   by_cases hq:∃ q∈rout,q.1=p.1
   ·obtain ⟨q,hq,hqe⟩:=hq
    have h3:=hget1 q hq
    rw [hqe,h2]at h3
    obtain ⟨b,hb⟩:=UR ρ rout (Qd ρ rin H.blk) q hq
    rw [hqe]at hb
    rcases Yg ρ rout _ _ _ hb with ⟨s,hs,h4,h5⟩ | ⟨h4,_⟩
    ·have h6:=hinj2 q hq s hs (by rw [hqe];exact h4)
     have h7:=hget1 s hs
     rw [← h6,hqe,h2]at h7
     rw [hb,h5,(hrin p hp).2.2.2.2]
     rw [← Option.some.inj h7]
    ·exact absurd (congrArg ρ hqe) (h4 q hq)
   ·rw [hgetn p.1 (fun q hq' e=>hq ⟨q,hq',e⟩) ⟨p,hp,rfl⟩]at h2
    cases h2
  ·have hm:∀ p∈rin,ρ p.1≠id:=fun p hp e=>hm ⟨p,hp,e⟩
   rw [Yf ρ rout _ id fun p hp e=>?_,QO ρ rin _ id hm]
   rcases Nat.lt_or_ge p.1 nx with h | h
   ·obtain ⟨q,hq,hqe⟩:=hold p hp h
    exact hm q hq (by rw [hqe];exact e)
   ·have:=r3 _ h;omega
 ·intro id b hid hb
  rcases hget2 id b hb with ⟨p,hp,rfl,_⟩ | ⟨_,_,h4⟩
  ·rcases Nat.lt_or_ge p.1 nx with h | h
   ·obtain ⟨q,hq,hqe⟩:=hold p hp h
    rw [← hqe]
    exact ⟨_,(hrin q hq).2.2.2.2⟩
   ·have:=r3 _ h;omega
  ·exact ⟨b,h4⟩
 ·intro id hid
  show (Jl ρ rout (Qd ρ rin H.blk)).get id=_
  rw [Yf ρ rout _ id fun p hp e=>?_,QO ρ rin _ id fun p hp e=>?_]
  ·have:=(hrin p hp).2.2.1;omega
  ·rcases Nat.lt_or_ge p.1 nx with h | h
   ·obtain ⟨q,hq,hqe⟩:=hold p hp h
    have:=(hrin q hq).2.2.1
    rw [hqe]at this;omega
   ·have:=r3 _ h;have:=hR.base;omega
 ·intro id x hid hx
  rw [hge id hid]at hx
  rcases a3.new _ x (by show nx≤_;omega) hx with h | h
  ·exact .inl h
  ·exact .inr (hrange _ h)
 ·intro c hc hno
  exact a3.frame c hc fun h=>hno (hrange c h)
theorem xp {nx next:Nat}{l:List (Nat×Nat×Nat)}{id:Nat} (h:nx≤id):ren nx next l id=next+(id-nx):=by
 unfold ren
 rw [zu,zN,if_pos (decide_eq_true h)]
 rfl
theorem UQ {nx next:Nat}{l:List (Nat×Nat×Nat)}{id:Nat} (h:id<nx):ren nx next l id=List.rec (motive:=fun _=>Nat) id (fun x _ ih=>ifB (zH (Nat.ble x.1 id) (Nat.blt id x.2.1)) (Nat.add x.2.2 (Nat.sub id x.1)) ih) l:=by
 unfold ren
 rw [zu,zN,if_neg (by simp;omega)]
theorem Wu {N nx next:Nat}{x:Nat×Nat×Nat}{l:List (Nat×Nat×Nat)} (h:XK N nx next (x::l)=true):(N≤x.1∧x.1≤x.2.1∧x.2.1≤nx∧x.2.2+(x.2.1-x.1)≤next)∧XK N nx next l=true:=by
 have h:zH (zH (Nat.ble N x.1) (zH (Nat.ble x.1 x.2.1) (zH (Nat.ble x.2.1 nx) (Nat.ble (Nat.add x.2.2 (Nat.sub x.2.1 x.1)) next)))) (XK N nx next l)=true:=h
 simp only [zB,Bool.and_eq_true,zN,decide_eq_true_eq]at h
 exact ⟨h.1,h.2⟩
theorem xo {N nx next:Nat}:∀ {l:List (Nat×Nat×Nat)},XK N nx next l=true→N≤nx→∀ id,id<N→ren nx next l id=id:=by
 intro l h hN id hid
 rw [UQ (by omega)]
 induction l with
 | nil=>rfl
 | cons x l ih=>
  obtain ⟨h1,h2⟩:=Wu h
  show ifB (zH (Nat.ble x.1 id) (Nat.blt id x.2.1)) _ _=_
  rw [zu,zB,zN,if_neg (by simp;omega)]
  exact ih h2
theorem xn {N nx next:Nat}:∀ {l:List (Nat×Nat×Nat)},XK N nx next l=true→nx≤next→∀ id,id<nx→ren nx next l id<next:=by
 intro l h hN id hid
 rw [UQ hid]
 induction l with
 | nil=>show id<next;omega
 | cons x l ih=>
  obtain ⟨h1,h2⟩:=Wu h
  show ifB (zH (Nat.ble x.1 id) (Nat.blt id x.2.1)) (Nat.add x.2.2 (Nat.sub id x.1)) _<next
  rw [zu,zB,zN,qo]
  split
  ·rename_i h3
   simp only [Bool.and_eq_true,decide_eq_true_eq]at h3
   show x.2.2+(id-x.1)<next
   omega
  ·exact ih h2
theorem lx (n:Nat):∀ l:List Nat,nv n l=true↔n∈l
 | []=>by simp [nv]
 | a::l=>by
  have e:nv n (a::l)=ifB (Nat.beq n a) true (nv n l):=rfl
  rw [e,zu,zG]
  by_cases h:n=a
  ·simp [h]
  ·simp [h,lx n l]
theorem Yl {ρ:Nat→Nat}:∀ {l:List (Nat×zJ)}{p:Nat×zJ},p∈l→ρ p.1∈Qa ρ l
 | q::l,p,h=>by
  have e:Qa ρ (q::l)=ρ q.1::Qa ρ l:=z7 _ _
  rw [e]
  rcases List.mem_cons.1 h with rfl | h
  ·exact List.mem_cons_self
  ·exact List.mem_cons_of_mem _ (Yl h)
theorem WD {ρ:Nat→Nat}:∀ {l:List (Nat×zJ)},bh (Qa ρ l)=true→∀ p∈l,∀ q∈l,ρ p.1=ρ q.1→p.1=q.1
 | [],_,p,hp,_,_,_=>by cases hp
 | a::l,h,p,hp,q,hq,e=>by
  have e1:Qa ρ (a::l)=ρ a.1::Qa ρ l:=z7 _ _
  rw [e1]at h
  have h:ifB (nv (ρ a.1) (Qa ρ l)) false (bh (Qa ρ l))=true:=h
  rw [zu]at h
  split at h
  ·cases h
  ·rename_i hn
   have hn:ρ a.1 ∉ Qa ρ l:=fun hm=>hn ((lx _ _).2 hm)
   rcases List.mem_cons.1 hp with hp1 | hp1<;>rcases List.mem_cons.1 hq with hq1 | hq1
   ·rw [hp1,hq1]
   ·rw [hp1]at e
    exact absurd (e ▸ Yl hq1) hn
   ·rw [hq1]at e
    exact absurd (e ▸ Yl hp1) hn
   ·exact WD h p hp1 q hq1 e
theorem Qi {N nx:Nat}{ρ:Nat→Nat}:∀ {l:List (Nat×zJ)},pI N nx ρ l=true→∀ p∈l,N≤p.1∧p.1<nx∧100≤ρ p.1∧(yc p.2).isNone=true
 | [],_,p,hp=>by cases hp
 | a::l,h,p,hp=>by
  have h:zH (zH (Nat.ble N a.1) (zH (Nat.blt a.1 nx) (zH (Nat.ble 100 (ρ a.1)) (zt (yc a.2) true fun _=>false)))) (pI N nx ρ l)=true:=h
  simp only [zB,Bool.and_eq_true,zN,qo,decide_eq_true_eq]at h
  rcases List.mem_cons.1 hp with rfl | hp
  ·refine ⟨h.1.1,h.1.2.1,h.1.2.2.1,?_⟩
   have h4:=h.1.2.2.2
   cases hl:yc p.2 with
   | none=>rfl
   | some x=>rw [hl]at h4;cases h4
  ·exact Qi h.2 p hp
theorem WO {ρ:Nat→Nat}{t:Tr zJ}:∀ {l:List (Nat×zJ)},bz ρ t l=true→∀ p∈l,t.get (ρ p.1)=some (da ρ p.2)
 | [],_,p,hp=>by cases hp
 | a::l,h,p,hp=>by
  have h:zH (frc (ρ a.1) fun m=>zt (t.get m) false fun b=>Yb b (pH ρ a.2)) (bz ρ t l)=true:=h
  rw [ld]at h
  rw [zB,Bool.and_eq_true,z7]at h
  rcases List.mem_cons.1 hp with rfl | hp
  ·have h1:=h.1
   cases ht:t.get (ρ p.1) with
   | none=>rw [ht]at h1;cases h1
   | some b=>rw [ht,zg]at h1;rw [Xk h1]
  ·exact WO h.2 p hp
theorem nw {P:Program}{zW:List (Nat×zJ)}{β:Inj}{H H':Heap}{w:World}{g:FuncId}{as:List zd}{f:Fact}{v:zd} (h:bn g as H f=some (v,H')) (hf:jw P zW β f) (hR:Rel P β H w) (hat:∀ g,g<100→β g=some (Unk.place g))
  (htabs:∀ p∈zW,p.1<100∧H.blk.get p.1=some p.2) (hargs:WFs β as) :
  Calls P g (zq β as).toArray w fun e w2=>∃ γ,e = .returned (zh γ v)∧WF γ v∧Rel P γ H' w2∧Ext β H w γ H' w2:=by
 cases f with
 | memoG k N segs bs nx rin rout r n=>
  have h:ifB (Nat.beq g k) (bnd (pA as H segs) fun l=>ifB (zH (Nat.ble nx H.next) (zH (Nat.ble 100 N) (Nat.ble N nx))) (sA as bs H N nx rin rout r n l (ren nx H.next l)) none) none=some (v,H'):=h
  obtain ⟨hk,hQ⟩:=zl h
  rw [zG,beq_iff_eq]at hk
  clear h
  subst hk
  obtain ⟨l,_,h⟩:=zf hQ
  clear hQ
  obtain ⟨h1,h⟩:=zl h
  simp only [zB,Bool.and_eq_true,zN,decide_eq_true_eq]at h1
  obtain ⟨h1,h60,hN⟩:=h1
  unfold sA at h
  obtain ⟨h2,h⟩:=zl h
  simp only [zB,Bool.and_eq_true]at h2
  obtain ⟨s1,s2,s3,s4,s5⟩:=h2
  rw [z7]at h
  cases h
  have s2:=jZ _ _ s2
  subst s2
  obtain ⟨β0,hle,hlow,hM,m1,m2,m3,htab⟩:=hf
  exact gf hM hle hR hat htabs htab h60 hN hlow (xo s1 hN) (xn s1 h1) (fun id hid=>xp hid)
   (fun p hp=>⟨(Qi s3 p hp).1,(Qi s3 p hp).2.1,(Qi s3 p hp).2.2.1,(Qi s3 p hp).2.2.2,WO s5 p hp⟩) (WD s4) (m1 _) m2 m3 hargs
 | _=>cases h
end
section
variable [Unk]
section
variable {E:Env} (hE:jU E)
include hE
def ml (E:Env) (rec:Rec):Prop:=
 ∀ (f:FuncId) (args:List zd) (H H':Heap) (v:zd) (β:Inj) (w:World),cl E (kB E rec f) args H=some (v,H')→Rel E.P β H w→QZ E β H→WFs β args →
  Res E.P (callFunc f (zq β args).toArray) w (RR E.P β H w v H')
theorem tt (hN:QX E.P) (hS:cz E) {rec:Rec} (hRec:JA E rec) (hI:ml E rec) {f:FuncId}{args:List zd}{H H':Heap}{v:zd} (h:mi E rec f args H=some (v,H')) {β:Inj}{w:World}
  (hR:Rel E.P β H w) (hG:QZ E β H) (hargs:WFs β args):Res E.P (callFunc f (zq β args).toArray) w (RR E.P β H w v H'):=by
 unfold mi at h
 cases hs:E.spec.get f with
 | none=>
  rw [hs,zm]at h
  exact kT hE hN hRec h hR hG hargs
 | some s=>
  rw [hs,zg]at h
  have hsp:=hS f s hs
  cases s with
  | mapsClone=>exact hsp.res (Ub hR h hargs)
  | indexByte=>exact hsp.res (Uc hR h hargs)
  | makeNoZero e=>
   obtain ⟨ps,t,h1,h2,h3⟩:=hsp
   exact h1.res (VJ hE hR h hargs h2 h3)
  | same=>
   cases args with
   | nil=>cases h
   | cons a q=>
    replace h:=yS h
    obtain ⟨hnil,h⟩:=h
    subst hnil
    cases h
    exact hsp.res (zY.sim ⟨rfl,hargs.1⟩ hR)
  | insert=>exact hI f args H H' v β w h hR hG hargs
  | compare=>exact hsp.res (cF hR h hargs)
  | count=>exact hsp.res (mm hR h hargs)
  | fact=>
   have h:(bnd (E.funcs.get f) fun fn=>bnd fn.body fun _=>zt (findF (dH f args) E.facts) (zt (findF (dF f args) E.facts) (zt (findF (lB f args H) E.facts) (zt (findF (bn f args H) E.facts) (zt (findF (lz E f args H) E.facts) (kB E rec f args H) fun r=>some (r,H)) fun q=>some q) fun q=>some q) fun q=>oD H q.1 q.2.1 q.2.2.1 q.2.2.2) fun r=>some (r,H))=some (v,H'):=h
   replace h:=zf h
   obtain ⟨fn,hfn,h⟩:=h
   replace h:=zf h
   obtain ⟨c,hcb,h⟩:=h
   rw [hE.funcs]at hfn
   have hn:fn.name ≠ "runtime.NumGoroutine" := by simpa using hN f fn hfn
   have htabs:yR E.P E.zW w:=⟨β,hG.at_,fun p hp=>hR.blk p.1 p.2 (Unk.place p.1) (hG.zW p hp).2 (hG.at_ p.1 (hG.zW p hp).1)⟩
   cases hc:findF (dH f args) E.facts with
   | none=>
    rw [hc,zm]at h
    cases hm:findF (dF f args) E.facts with
    | none=>
     rw [hm,zm]at h
     cases hq:findF (lB f args H) E.facts with
     | none=>
      rw [hq,zm]at h
      cases hmg:findF (bn f args H) E.facts with
      | some q=>
       rw [hmg,zg]at h
       cases h
       obtain ⟨g,hg,e⟩:=qh hmg
       refine ⟨.enter f (zq β args).toArray,w,by simp [callFunc,hfn,hn,hcb],?_⟩
       refine (nw e (hG.facts _ hg) hR hG.at_ hG.zW hargs).mono fun x w' hx=>?_
       obtain ⟨γ,rfl,g1,g2,g3⟩:=hx
       exact ⟨_,rfl,γ,rfl,g1,g2,g3⟩
      | none=>
      rw [hmg,zm]at h
      cases hd:findF (lz E f args H) E.facts with
      | none=>
       rw [hd,zm]at h
       exact kT hE hN hRec h hR hG hargs
      | some r=>
       rw [hd,zg]at h
       cases h
       obtain ⟨g,hg,e⟩:=qh hd
       obtain ⟨bs,rfl,e2⟩:=rL e
       obtain ⟨h1,h2⟩:=hG.facts _ hg
       refine ⟨.enter f (zq β args).toArray,w,by simp [callFunc,hfn,hn,hcb],?_⟩
       refine (h2 w _ β (fun _ _ hx=>hx) htabs (KU hG.facts hR e2 hargs)).mono fun x w' hx=>?_
       obtain ⟨rfl,hgr⟩:=hx
       exact ⟨_,rfl,β,rfl,h1,hR.YP hgr,Ext.YP hR.bnd hgr⟩
     | some q=>
      rw [hq,zg]at h
      cases h
      obtain ⟨g,hg,e⟩:=qh hq
      obtain ⟨rin,rout,n,rfl,e2,e3⟩:=rO e
      have hfact:=hG.facts _ hg
      refine ⟨.enter f (zq β args).toArray,w,by simp [callFunc,hfn,hn,hcb],?_⟩
      refine (hfact β H w (fun _ _ hx=>hx) hR hG.at_ hG.zW rfl e3 hargs).mono fun x w' hx=>?_
      obtain ⟨γ,rfl,a1,a2,a3⟩:=hx
      have e2:H'=WE H rin rout n:=e2
      exact ⟨_,rfl,γ,rfl,a1,by rw [e2];exact a2,by rw [e2];exact a3⟩
    | some q=>
     rw [hm,zg]at h
     obtain ⟨g,hg,e⟩:=qh hm
     obtain ⟨h1,h2,h3⟩:=rP e (hG.facts _ hg)
     refine ⟨.enter f (zq β args).toArray,w,by simp [callFunc,hfn,hn,hcb],?_⟩
     refine (h3 w htabs).mono fun x w' hx=>?_
     obtain ⟨hgr,γ,rfl,hwr,hmd⟩:=hx
     exact ⟨_,rfl,oC hR h h2 hgr hwr hmd⟩
   | some r=>
    rw [hc,zg]at h
    cases h
    obtain ⟨g,hg,e⟩:=qh hc
    obtain ⟨h1,h2,h3⟩:=rT e (hG.facts _ hg)
    refine ⟨.enter f (zq β args).toArray,w,by simp [callFunc,hfn,hn,hcb],?_⟩
    refine (h3 w htabs).mono fun x w' hx=>?_
    obtain ⟨rfl,hgr⟩:=hx
    exact ⟨_,rfl,β,rfl,h2,hR.YP hgr,Ext.YP hR.bnd hgr⟩
omit hE in
theorem QW {β:Inj}{l m:List zd} (hl:WFs β l) (hm:WFs β m):WFs β (l++m):=by
 rw [jb]at *
 intro v hv
 rcases List.mem_append.1 hv with hv | hv
 ·exact hl v hv
 ·exact hm v hv
omit hE in
theorem Zc (β:Inj) (l m:List zd):zq β (l++m)=zq β l++zq β m:=by simp [zK]
theorem ov (hN:QX E.P) (hS:cz E) {rec:Rec} (hRec:JA E rec) (hI:ml E rec) {g:zd}{args:List zd}{H H':Heap}{v:zd} (h:iG E rec g args H=some (v,H')) {β:Inj}{w:World}
  (hR:Rel E.P β H w) (hG:QZ E β H) (hg:WF β g) (hargs:WFs β args) :
  Res E.P (do let d ← Deferred.ofValue (zh β g) (zq β args).toArray;invoke d.target d.args) w (RR E.P β H w v H'):=by
 cases g with
 | fn f l m=>
  have h:mi E rec f (jv l (jv args m)) H=some (v,H'):=h
  have hw:WFs β (jv l (jv args m)):=by
   rw [qy,qy]
   exact QW hg.1 (QW hargs hg.2)
  have h1:=tt hE hN hS hRec hI h hR hG hw
  have e:(do let d ← Deferred.ofValue (zh β (.fn f l m)) (zq β args).toArray;invoke d.target d.args:Sem Next)=callFunc f (zq β (jv l (jv args m))).toArray:=by
   rw [qy,qy,Zc,Zc]
   show callFunc f (((zq β l).toArray++(zq β args).toArray)++(zq β m).toArray)=_
   congr 1
   simp
  rw [e]
  exact h1
 | yieldf l=>
  have h1:=oo hE hRec (show ik rec l args H=some (v,H') from h) hR hG hargs hg
  have e:(do let d ← Deferred.ofValue (zh β (.yieldf l)) (zq β args).toArray;invoke d.target d.args:Sem Next)=Instr.yield (β.blk l) (zq β args).toArray:=by
   show Instr.yield (β.blk l) (#[]++(zq β args).toArray)=_
   congr 1
   simp
  rw [e]
  exact h1
 | _=>cases h
theorem pT (hN:QX E.P) (hS:cz E) {rec:Rec} (hRec:JA E rec) (hI:ml E rec):Xs E rec:=by
 intro β H w T o ρ v H' hR hG hρ h
 by_cases hc:∃ c g,o.op = .call c∧c.callee = .value g
 ·obtain ⟨c,g,h1,h2⟩:=hc
  obtain ⟨dst,op,ty,pos,af,gd⟩:=o
  simp only at h h1 hρ
  subst h1
  obtain ⟨ce,as,ts⟩:=c
  simp only at h2
  subst h2
  have h:(bnd (ev T g) fun v=>bnd (evs T as.toList) fun vs=>iG E rec v vs H)=some (v,H'):=h
  replace h:=zf h
  obtain ⟨gv,hgv,h⟩:=h
  replace h:=zf h
  obtain ⟨vs,hvs,h⟩:=h
  obtain ⟨g1,g2⟩:=hρ g (by simp [Op.operands,Call.operands]) gv hgv
  obtain ⟨a1,a2⟩:=bE (ρ:=ρ) as.toList vs hvs (fun x hx v hv=>hρ x (by simp [Op.operands,Call.operands];exact .inr (by simpa using hx)) v hv)
  have:=ov hE hN hS hRec hI h hR hG g2 a2
  have e:as.map ρ=(zq β vs).toArray:=by rw [← a1,← Array.toList_map]
  show Res E.P (do let d ← resolve ρ ⟨.value g,as,ts⟩ ty;invoke d.target d.args) w _
  simp only [resolve,e,g1]
  exact this
 ·refine (aA hE hR hG.facts h hρ fun c hop=>?_).res
  cases hce:c.callee with
  | builtin b=>exact ⟨b,rfl⟩
  | value g=>exact absurd ⟨c,g,hop,hce⟩ hc
  | invoke r n=>
   obtain ⟨dst,op,ty,pos,af,gd⟩:=o
   simp only at h hop
   subst hop
   obtain ⟨ce,as,ts⟩:=c
   simp only at hce
   subst hce
   cases h
end
end
section
variable [Unk]
theorem J0 {P:Program}{w:World}{l:Nat}{r:Loop} (h:w.heap[l]? = some (.loop r)) (fn:FuncId) (tmps:Array Value) (ps:Array Tmp) (assign body:Code) :
  (Instr.enterLoop fn tmps ps assign body (some l)).run P w = .ok (w.heap.size,[]) (w.alloc (.loop { state:=.ready,pending:=none,fn,tmps,params:=ps,assign,body,defers:=r.defers })):=by
 unfold Instr.enterLoop
 simp only [Sem.run_bind,run_getLoop h,Result.andThen,Sem.run_pure,run_newObj]
 rfl
section
variable {E:Env} (hE:jU E)
include hE
theorem sJ {fr:Fr}{B:Nat}{T:Tr zd}{H:Heap}{β:Inj}{w:World}{b:Frame}{a:Act} (hA:At E fr B T H β w b a) (hro:xl fr H=true) (ps:Array Tmp) (as bo:Code) :
  ∃ (L:Nat) (mark:List Deferred) (w1:World),(Instr.enterLoop b.fn a.tmps ps as bo b.roundOf).run E.P w = .ok (L,mark) w1 ∧
   Rel E.P (β.put H.next (L,0,0)) ⟨H.blk.set H.next (.loop .ready none fr.fn fr.n T ps as bo),H.next+1⟩ w1 ∧
   Ext β H w (β.put H.next (L,0,0)) ⟨H.blk.set H.next (.loop .ready none fr.fn fr.n T ps as bo),H.next+1⟩ w1 ∧
   Marks B w1 (β.put H.next (L,0,0)) ⟨H.blk.set H.next (.loop .ready none fr.fn fr.n T ps as bo),H.next+1⟩ (mark++a.defers):=by
 have _:=hE
 have hfr:=hA.rel.fresh (Nat.le_refl H.next)
 cases hr:fr.ro with
 | none=>
  have hb:b.roundOf=none:=by rw [hA.frame.ro,hr];rfl
  let w0:=push w (.deferred (some []))
  have hR0:Rel E.P β H w0:=hA.rel.untrack fun c hc=>by
   obtain ⟨i,bl,y,e1,e2,rfl⟩:=hc
   exact Jm w _ (hA.rel.blk i bl y e1 e2).lt
  have hE0:Ext β H w β H w0:=⟨fun _ _=>rfl,Nat.le_refl _,fun _ _ _=>rfl,fun _ b _ h=>⟨b,h⟩,fun _ _=>rfl,fun id x h e=>absurd (hA.rel.bnd _ _ e) (by omega),fun c hc _=>Jm w _ hc,by simp [w0,push],rfl,rfl,rfl⟩
  have hs0:w0.heap.size=w.heap.size+1:=by simp [w0,push]
  have hadd:=hR0.add (.loop .ready none fr.fn fr.n T ps as bo) (.loop { state:=.ready,pending:=none,fn:=b.fn,tmps:=a.tmps,params:=ps,assign:=as,body:=bo,defers:=w.heap.size }) 0
   ⟨a.tmps,w.heap.size,by rw [j6,hA.frame.fn],hA.tmp.mono (Inj.j4 hfr)⟩
  rw [hs0]at hadd
  obtain ⟨r1,r2⟩:=hadd
  refine ⟨w.heap.size+1,[QJ w.heap.size],_,?_,r1,hE0.trans r2,?_⟩
  ·rw [hb]
   exact run_enterLoop_outer b.fn a.tmps ps as bo
  ·obtain ⟨rs,h1,h2⟩:=hA.marks.ext (hE0.trans r2)
   obtain ⟨rs',h1',h2'⟩:=hA.marks
   have hrr:rs=rs':=by
    have inj:∀ (x y:List Nat),x.map QJ=y.map QJ→x=y:=by
     intro x
     induction x with
     | nil=>intro y h;cases y with | nil=>rfl | cons _ _=>cases h
     | cons p x ih=>
      intro y h
      cases y with
      | nil=>cases h
      | cons q y=>
       simp only [List.map_cons,List.cons.injEq]at h
       have:p=q:=by have:=h.1;simp [QJ]at this;exact this
       rw [this,ih y h.2]
    exact inj _ _ (h1 ▸ h1' ▸ rfl)
   subst hrr
   refine ⟨w.heap.size::rs,by rw [h1];rfl,?_,?_⟩
   ·rw [List.nodup_cons]
    refine ⟨fun hm=>?_,h2.nodup⟩
    have:=(h2'.each _ hm).2.1
    omega
   ·intro r hr
    rcases List.mem_cons.1 hr with rfl | hr
    ·refine ⟨hA.base,by show w.heap.size<(w0.heap.push _).size;rw [Array.size_push,hs0];omega,?_,?_⟩
     ·rintro ⟨i,bl,y,e1,e2,e3⟩
      by_cases hi:i=H.next
      ·subst hi
       rw [Inj.zM]at e2;cases e2
       simp at e3
      ·rw [Inj.z8 _ _ hi]at e2
       have e1:(H.blk.set H.next (.loop .ready none fr.fn fr.n T ps as bo)).get i=some bl:=e1
       rw [Tr.zR,if_neg (fun e=>hi e.symm)]at e1
       have:=(hA.rel.blk i bl y e1 e2).lt
       omega
     ·rw [Jm _ _ (by rw [hs0];omega)]
      exact j6 _ _
    ·exact h2.each r hr
 | some l=>
  have hb:b.roundOf=some (β.blk l):=by rw [hA.frame.ro,hr];rfl
  have hl:=hA.frame.mapped l hr
  have hlp:∃ q,H.lp l=some q:=by
   unfold xl at hro
   rw [hr,zg]at hro
   cases hq:H.lp l with
   | none=>rw [hq]at hro;cases hro
   | some q=>exact ⟨q,rfl⟩
  obtain ⟨q,hq⟩:=hlp
  obtain ⟨_,r,h2,_⟩:=U1 hA.rel hq hl
  have hadd:=hA.rel.add (.loop .ready none fr.fn fr.n T ps as bo) (.loop { state:=.ready,pending:=none,fn:=b.fn,tmps:=a.tmps,params:=ps,assign:=as,body:=bo,defers:=r.defers }) 0
   ⟨a.tmps,r.defers,by rw [j6,hA.frame.fn],hA.tmp.mono (Inj.j4 hfr)⟩
  refine ⟨w.heap.size,[],_,?_,hadd.1,hadd.2,hA.marks.ext hadd.2⟩
  rw [hb]
  exact J0 h2 b.fn a.tmps ps as bo
theorem dI (hN : QX E.P) {rec : Rec} (hRec : JA E rec) : cC E rec := by
  intro fr f ps as bo T H β w b a k cs B it hit hA
  obtain rfl : it = .code (.rangeFunc f ps as bo) := by rcases hit with h | ⟨d, h, _⟩; exact h; cases h
  show Out E.P fr B β H w b k cs _ (Kk f ps as bo E rec fr T H)
  generalize hres : Kk f ps as bo E rec fr T H = res
  by_cases hfail : res = .fail
  · rw [hfail]; trivial
  · unfold Kk at hres
    rw [zu] at hres
    split at hres
    case isFalse => exact absurd hres.symm hfail
    rename_i hro
    cases hv : ev T f with
    | none => rw [hv] at hres; exact absurd hres.symm hfail
    | some v =>
      rw [hv, zg] at hres
      cases hq : DI v with
      | none => rw [hq] at hres; exact absurd hres.symm hfail
      | some q =>
        rw [hq, zg] at hres
        have hvq : v = .fn q.1 q.2.1 q.2.2 := by cases v <;> cases hq; rfl
        subst hvq
        cases hs : E.spec.get q.1 with
        | some s => rw [hs] at hres; exact absurd hres.symm hfail
        | none =>
          rw [hs, zm] at hres
          simp only [z7] at hres
          unfold lh at hres
          cases hb : kB E rec q.1 (jv q.2.1 (jv [.yieldf H.next] q.2.2)) ⟨H.blk.set H.next (.loop .ready none fr.fn fr.n T ps as bo), Nat.succ H.next⟩ with
          | none => rw [hb] at hres; exact absurd hres.symm hfail
          | some r =>
            obtain ⟨rv, H2⟩ := r
            rw [hb, zg] at hres
            obtain ⟨e1, e2⟩ := bF hA.tmp hA.glob hv
            obtain ⟨L, mark, w1, he, hR1, hX1, hM1⟩ := sJ hE hA hro ps as bo
            have hle1 := hX1.le hA.rel.bnd
            have hw1 : WFs (β.put H.next (L, 0, 0)) (jv q.2.1 (jv [.yieldf H.next] q.2.2)) := by
              rw [qy, qy]
              refine QW ((WFs.mono hle1 _ e2.1).1) (QW ⟨by simp [WF, Inj.zM], trivial⟩ ((WFs.mono hle1 _ e2.2).1))
            obtain ⟨⟨fn, c, hf1, hf2⟩, hcall⟩ := K7 hE hRec hb hR1 (hA.glob.ext hA.rel.bnd hX1) hw1
            have hname : fn.name ≠ "runtime.NumGoroutine" := by simpa using hN q.1 fn hf1
            have hargs : (zq (β.put H.next (L, 0, 0)) (jv q.2.1 (jv [.yieldf H.next] q.2.2))).toArray = ((zq β q.2.1).toArray ++ #[.func (.yield L) #[] #[]]) ++ (zq β q.2.2).toArray := by
              rw [qy, qy, Zc, Zc, (WFs.mono hle1 _ e2.1).2, (WFs.mono hle1 _ e2.2).2]
              simp [zq, zh, Inj.blk, Inj.zM]
            have hrs : (resolve a.eval (rangeCall f L) 0).run E.P w1 = .ok { target := .fn (.func q.1) (zq β q.2.2).toArray, args := (zq β q.2.1).toArray ++ #[.func (.yield L) #[] #[]] } w1 := by
              have em : (#[Operand.const (.func (.yield L) #[] #[])].map a.eval) = #[.func (.yield L) #[] #[]] := by simp [Act.eval]
              simp only [resolve, e1, zh, Deferred.ofValue, em, Sem.run_pure]
            have hiv : (invoke (.fn (.func q.1) (zq β q.2.2).toArray) ((zq β q.2.1).toArray ++ #[.func (.yield L) #[] #[]])).run E.P w1 =
                .ok (.enter q.1 (zq (β.put H.next (L, 0, 0)) (jv q.2.1 (jv [.yieldf H.next] q.2.2))).toArray) w1 := by
              rw [hargs]
              simp [invoke, callFunc, hf1, hname, hf2]
            have s1 := stepR_rangeFunc (P := E.P) (b := b) (a := a) (k := k) (cs := cs) (w := w) he hrs hiv
            obtain ⟨e, w2, fr2, ⟨x, rfl, β2, rfl, g1, g2, g3⟩, hs2, _, hlv⟩ := hcall (b.atR { a with defers := mark ++ a.defers } (.inRangeFunc L :: k) :: cs)
            have s3 := step_leave_returned (c := b.atR { a with defers := mark ++ a.defers } (.inRangeFunc L :: k)) (cs := cs) hlv
            rw [finish_atR_inRangeFunc] at s3
            have hsteps : Steps E.P (lone (b.atR a (.code (.rangeFunc f ps as bo) :: k)) cs w) (lone (b.atR { a with defers := mark ++ a.defers } (.endRangeFunc L :: k)) cs w2) :=
              .head s1 (Steps.trans hs2 (.one s3))
            have hX2 := hX1.trans g3
            have hle2 := g3.le hR1.bnd
            have hl2 : (β2 H.next).isSome := by rw [hle2 H.next (L, 0, 0) (Inj.zM _ _ _)]; rfl
            have hbl : β2.blk H.next = L := by simp [Inj.blk, hle2 H.next (L, 0, 0) (Inj.zM _ _ _)]
            unfold dc at hres
            cases hlp : H2.lp H.next with
            | none => simp only [hlp, zm] at hres; exact absurd hres.symm hfail
            | some q2 =>
              simp only [hlp, zg] at hres
              rw [zu] at hres
              split at hres
              · exact absurd hres.symm hfail
              · rename_i hbusy
                obtain ⟨_, r2, h2, h3, h4, _⟩ := U1 g2 hlp hl2
                have hst : r2.state ≠ .busy := by
                  rw [h3]
                  intro hq
                  rw [hq] at hbusy
                  exact hbusy rfl
                obtain ⟨k1, k2⟩ := VU g2 hlp hl2 h2 .exhausted r2.pending
                rw [h4] at k1 k2
                have hend := run_endLoop (P := E.P) h2 hst
                rw [hbl] at hend
                have s4 := stepR_endRangeFunc (b := b) (a := { a with defers := mark ++ a.defers }) (k := k) (cs := cs) hend
                have hw3 : w2.putObj (β2.blk H.next) (.loop { r2 with state := .exhausted, pending := q2.pend }) = w2.putObj L (.loop { r2 with state := .exhausted }) := by
                  rw [hbl, ← h4]
                rw [hw3] at k1 k2
                have hpost : Xr E.P β H w fr B β2 (H2.ZK H.next q2 .exhausted q2.pend) (w2.putObj L (.loop { r2 with state := .exhausted })) T { a with defers := mark ++ a.defers } :=
                  ⟨k1, hX2.trans k2, hA.tmp.mono ((hX2.trans k2).le hA.rel.bnd), (hM1.ext g3).ext k2⟩
                have hall := hsteps.trans (.one s4)
                generalize w2.putObj L (.loop { r2 with state := .exhausted }) = W at hall hpost
                rw [h4] at hall
                cases hp : q2.pend with
                | none =>
                  rw [hp, zm] at hres
                  rw [← hres]
                  rw [hp] at hall hpost
                  exact ⟨β2, _, _, hpost, hall⟩
                | some j =>
                  rw [hp, zg] at hres
                  rw [hp] at hall hpost
                  cases j <;> first | exact absurd hres.symm hfail | skip
                  case exit id =>
                    rw [← hres]
                    exact ⟨β2, _, _, k, hpost, rfl, hall⟩
                  case ret =>
                    rw [← hres]
                    exact ⟨β2, _, _, k, hpost, hall⟩
end
end
end Go.AEv
