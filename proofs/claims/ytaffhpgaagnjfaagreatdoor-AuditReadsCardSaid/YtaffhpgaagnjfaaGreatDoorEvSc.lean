/- Trails: EvSc. Conditions: each theorem's. -/
import Derived.Test.YtaffhpgaagnjfaaGreatDoorEvSb
import GoSem.Extern.Table
import Derived.Laws.BytesString
import Derived.Lib.UnsafeStr
import Derived.MapKept
set_option linter.all false
open List Nat Option Array Int
namespace Go.AEv
variable{H H':Heap}{P:Ef}{T dst e src t xT:Eg}{b n sCap:Nat}{bs:Eb}{c k v x z:G}{extra:Ec}{l:List G}{p:Nat×Nat}{w w':Ea}{β β':Inj}
section
variable[Unk]
def Sim(P:Ef)(β:Inj)(H:Heap)(w:Ea)(m:Sem Value)(v:G)(H':Heap):Prop:=
 ∃β' w',m.run P w = .ok (J β' v) w'/\WF β' v/\Rel P β' H' w'/\Ext β H w β' H' w'
def qk.sim{m:Sem Value}(h:qk P β w m v)(hR:Rel P β H w):Sim P β H w m v H:=
 ⟨β,w,h.1,h.2,hR,.refl _ _ _ hR.bnd⟩
def kE.ofList(hl:WFs β l)(extra:Ec)(e:Nat)(he:e*qS P t<=extra.length)(fz:Nat×Nat)
  (hf:∀i,i<l.length+extra.length->¬(fz.1<=i/\i<fz.2)) :
  kE P β t (je l 0) (M.ofList l) 0 e (K β l++extra).toArray fz where
 size:=by simp[zC];omega
 cell:=λi v h=>by
  rw[M.qy]at h;refine⟨(qb _ _).1 hl v (LX h),?_⟩;have a:=(LL.1 h).1;rw[Lz,AB,Ao (by rw[zC];simpa using a),zC,Lw,h];rfl
 thaw:=λi hi=>hf i (by simpa[zC] using hi)
 al:=Nat.dvd_zero _
def Rel.newRow(hR:Rel P β H w){c:M G}{arr:Eh}{e:Nat}{fz:Nat×Nat}
  (h:kE P β t n c 0 e arr fz) :
  Rel P (β.put H.next (w.heap.size,0,e)) ⟨H.blk.set H.next (.cells t n c),H.next+1⟩ (push w (.cells arr t fz)) /\
  Ext β H w (β.put H.next (w.heap.size,0,e)) ⟨H.blk.set H.next (.cells t n c),H.next+1⟩ (push w (.cells arr t fz)):=
 hR.add _ _ e ⟨arr,fz,yN _ _,h.mono (Inj.yL (hR.fresh (Lh _)))⟩
def yV(β:Inj)(m c e:Nat):(β.put m (c,0,e)).addr m 0=⟨c,0,none⟩:=by simp[Inj.addr,Inj.blk,Inj.sh,Inj.zS]
def UM(β:Inj)(m c s e:Nat):(β.put m (c,s,e)).ext m=e:=by simp[Inj.ext,Inj.zS]
def Rel.dq(hR:Rel P β H w)(t:Eg)(hl:WFs β l) :
  Rel P (β.put H.next (w.heap.size,0,0)) (Heap.new H t l) (push w (.cells (K β l).toArray t)) /\
  Ext β H w (β.put H.next (w.heap.size,0,0)) (Heap.new H t l) (push w (.cells (K β l).toArray t)):=by
 have:=hR.newRow (t:=t) (e:=0) (fz:=(0,0)) (kE.ofList hl [] 0 Oc (0,0) Oc);simp only[AJ]at this;exact this
def ks{f:Nat->G}{r:G×Heap}(h:wE H t l f=some r):r=(f H.next,Heap.new H t l):=by
 cases h;rfl
section
variable{E:Env}(hE:yF E)
include hE
theorem uO(hR:Rel E.P β H w)(a:E.zero t=some z) :
  Sim E.P β H w (Instr.alloc t true (.tuple #[])) (.ptr H.next 0) (Heap.new H t (zU z)):=by
 obtain⟨g1,b⟩:=yi hE a β w;obtain⟨h1,h2⟩:=hR.dq t (j9 b);refine⟨_,_,?_,by simp[WF,Inj.zS],h1,h2⟩;unfold Instr.alloc;simp[g1,newVar,newRow,jm,J,yV];rfl
omit hE in
theorem Hj(hR:Rel P β H w)(t:Eg)(hv:WF β v) :
  Sim P β H w (Instr.box t (J β v)) (.ptr H.next 0) (Heap.new H t (zU v)):=by
 obtain⟨h1,h2⟩:=hR.dq t (j9 hv);refine⟨_,_,?_,by simp[WF,Inj.zS],h1,h2⟩;unfold Instr.box;simp[newVar,newRow,jm,J,yV];rfl
theorem run_places:∀(a:List Field),U6 E a=true ->
  ∃pl:List (Nat×Nat),(a.mapM λf=>(do pure (f.offset,<- sizeOf f.type):Sem (Nat×Nat))).run E.P w = .ok pl w/\∀i:Nat,pl[i]?=Xw E a i:=by
 intro a
 induction a with
 | nil=>intro _;exact⟨[],Oc,λi=>by simp[Xw]⟩
 | cons f a b=>
  intro h;have e:U6 E (f::a)=Z (E.size f.type) false λ_=>U6 E a:=rfl;rw[e]at h
  cases hs:E.size f.type with
  | none=>rw[hs]at h;cases h
  | some s=>
   rw[hs,ze]at h;obtain⟨pl,h1,h2⟩:=b h;refine⟨(f.offset,s)::pl,?_,λi=>?_⟩
   .simp only[mapM_cons,Lg,qK hE hs,Li,Ln,h1]
   .cases i with
    | zero=>simp[Xw,hs]
    | succ i=>rw[Ap,h2 i];simp[Xw]
theorem uB{d:Es}{b:List (Nat×G)}(m:E.zero t=some z)(hd:E.desc t=some d)
  (h:xP E d (zU z) b=some l) (hp:∀p∈b,WF β p.2) (parts:Array (Nat×Value)) (hparts:parts.toList=b.map λp=>(p.1,J β p.2)) :
  qk E.P β w (Instr.build t parts) (.agg l):=by
 obtain⟨g1,r⟩:=yi hE m β w;have hw:=j9 r;unfold xP at h;unfold qk Instr.build;rw[Lg,g1,Li,Lg,zr hE hd,Li,jm]
 cases h1:Z3 d with
 | some x=>
  obtain⟨a,rfl,rfl⟩:=XC h1;rw[h1,ze,jV]at h;replace h:=zh h;obtain⟨h2,h⟩:=h;obtain⟨k,g,u⟩:=Xv (β:=β) (Xw E a.toList) b (zU z) l h hp hw;obtain⟨pl,p1,p2⟩:=run_places hE (w:=w) a.toList h2;refine⟨?_,g⟩;have e:(λi=>pl.toArray[i]?)=Xw E a.toList:=funext λi=>by simpa using p2 i
  have c:(a.mapM λf=>(do pure (f.offset,<- sizeOf f.type):Sem (Nat×Nat))).run E.P w = .ok pl.toArray w:=by
   rw[mapM_eq_mapM_toList];simp only[Sem.run_map,p1,Li]
  simp only[Lg,c,Li,hparts,e,k]
  simp[J]
 | none=>
  rw[h1,zn]at h;replace h:=D h;obtain⟨q,hq,h⟩:=h;obtain rfl:=QB hq;replace h:=D h;obtain⟨s,hs,h⟩:=h;rw[jV]at h;obtain⟨k,g,u⟩:=Xv (β:=β) (Kl s) b (zU z) l h hp hw;refine⟨?_,g⟩;have j:Instr.fill (λi=>some (i*s,s)) (K β (zU z)).toArray (b.map λp=>(p.1,J β p.2))=some (K β l).toArray:=k;simp only[Lg,qK hE hs,Li,hparts,j];simp[J]
theorem bA(hR:Rel E.P β H w){len s:Nat}{a:List (Nat×G)}(hd:E.desc t=some (.slice e))(hs:E.size e=some s)
  (hz:E.zero e=some z) (hb:len*s<=16777216) (hzs:(zU z).length=s) (h:mH (Kl s) (len*s) a (Jg (zU z) len)=some l) (hp:∀p∈a,WF β p.2)
  (parts:Array (Nat×Value)) (hparts:parts.toList=a.map λp=>(p.1,J β p.2)) :
  Sim E.P β H w (Instr.buildSlice t len parts) (.slice H.next 0 len len true) (Heap.new H e l):=by
 obtain⟨g1,f⟩:=yi hE hz β w;have hw:=aD (j9 f) len;have hlen:=Xl (zU z) s hzs len;rw[<- hlen]at h;obtain⟨j,g,k⟩:=Xv (β:=β) (Kl s) a _ l h hp hw;obtain⟨h1,h2⟩:=hR.dq e g;refine⟨_,_,?_,⟨by simp[Inj.zS],Lh _⟩,h1,h2⟩;have b:Instr.fill (λi=>some (i*s,s)) (K β (Jg (zU z) len)).toArray (a.map λp=>(p.1,J β p.2))=some (K β l).toArray:=j;unfold Instr.buildSlice;simp only[Lg,zr hE hd,Li,qK hE hs];rw[O I];by_cases d:len*s=0
 .have c:=Jp (β:=β) (zU z) s len hzs #[] (λh=>Ld d h);simp only[d,if_true,Lg,Ln,Li]at c ⊢;rw[c,hparts];simp only[b];simp[newRow,J,yV];rfl
 .have c:=Jp (β:=β) (zU z) s len hzs (K β (zU z)).toArray (λ_=>rfl);simp only[d,LY,Lg,g1,Ln,Li,jm];rw[c,hparts];simp only[b];simp[newRow,J,yV];rfl
omit hE in
theorem rk(n:Nat)(h:n<9223372036854775808):IntKind.i64.wrap (n:Int)=n:=by
 rw[<- yn];have e:QR .i64 (n:Int)=n:=AA (show n<18446744073709551616 by omega);unfold Q1 back;rw[e,zo,zW,Y]
 .rfl
 .exact Lx (show n<9223372036854775808 from h)
theorem iL(hR:Rel E.P β H w){l c:Nat}(hd:E.desc t=some (.slice e))(h:mkSlice E H e l c=some (v,H')) :
  Sim E.P β H w (Instr.makeSlice t (.int .i64 l) (.int .i64 c)) v H':=by
 replace h:=D h;obtain⟨i,hi,h⟩:=h;replace h:=D h;obtain⟨z,j,h⟩:=h;replace h:=zh h;obtain⟨hc,h⟩:=h;simp only[qg]at h;have h:=ks h;cases h;simp only[zl,Le,zK,zA,Lk,Ll,jV]at hc;obtain⟨c1,c2,c3,c4⟩:=hc;have c1:c*i.bytes<=1000000000:=c1;obtain⟨g1,k⟩:=yi hE j β w;have hw:=aD (j9 k) c;obtain⟨h1,h2⟩:=hR.dq e hw;refine⟨_,_,?_,⟨by simp[Inj.zS],c2⟩,h1,h2⟩;have d:E.size e=some i.size:=by unfold Env.size;rw[hi];rfl
 have wl:IntKind.i64.wrap (l:Int)=l:=rk l I;have g:IntKind.i64.wrap (c:Int)=c:=rk c I;unfold Instr.makeSlice;simp only[Lg,zr hE hd,Li,Go.asInt,asIntOf,Ln,yJ hE hi,wl,g,toNat_natCast];have hm:(i.bytes:Int)*(c:Int)=((c*i.bytes:Nat):Int):=by rw[Nat.mul_comm];simp
 have a:¬((decide ((c:Int)<0)||decide ((i.bytes:Int)*(c:Int) > 2 ^ 48)||decide ((l:Int)<0)||decide ((l:Int) > (c:Int)))=true):=by
  rw[hm];simp only[AK,Lk,not_or];omega
 rw[O a];simp only[Lg];simp only[run_askRoom,Li,qK hE d];by_cases f:c*i.size=0
 .have b:=Jp (β:=β) (zU z) i.size c c3 #[] (λh=>Ld f h);simp only[f,if_true,Lg,Ln,Li]at b ⊢;rw[b];simp[newRow,J,yV];rfl
 .have b:=Jp (β:=β) (zU z) i.size c c3 (K β (zU z)).toArray (λ_=>rfl);simp only[f,LY,Lg,g1,Ln,Li,jm];rw[b];simp[newRow,J,yV];rfl
end
end
section
variable[Unk]
def ZC(w:Ea):Alike w { w with drawn:=w.drawn+1 }:=⟨rfl,rfl,rfl,rfl⟩
def cO(p:G->Option Nat):∀(l:List G) (acc:Eb),UR p l acc=bnd (List.rec (motive:=λ_=>Option (List Nat)) (some []) (λv _ ih=>bnd (p v) λb=>bnd ih λm=>some (b::m)) l) λm=>some (m.reverse++acc)
 | [],acc=>rfl
 | v::l,acc=>by
  have e:UR p (v::l) acc=bnd (p v) λb=>UR p l (b::acc):=rfl;rw[e];show _=bnd (bnd (p v) λb=>bnd (List.rec (motive:=λ_=>Option (List Nat)) (some []) (λv _ ih=>bnd (p v) λb=>bnd ih λm=>some (b::m)) l) λm=>some (b::m)) λm=>some (m.reverse++acc)
  cases p v with
  | none=>rfl
  | some b=>
   rw[qJ,qJ,cO p l (b::acc)]
   cases(List.rec (motive:=λ_=>Option (List Nat)) (some []) (λv _ ih=>bnd (p v) λb=>bnd ih λm=>some (b::m)) l) with
   | none=>rfl
   | some m=>simp[qJ]
def Cf:∀(l acc:Eb),SJ l acc=l.reverse++acc
 | [],_=>rfl
 | a::l,acc=>by
  have e:SJ (a::l) acc=SJ l (a::acc):=rfl;rw[e,Cf l];simp
def cQ(p:G->Option Nat)(l:List G):Y4 p l=List.rec (motive:=λ_=>Option (List Nat)) (some []) (λv _ ih=>bnd (p v) λb=>bnd ih λm=>some (b::m)) l:=by
 unfold Y4;rw[cO]
 cases(List.rec (motive:=λ_=>Option (List Nat)) (some []) (λv _ ih=>bnd (p v) λb=>bnd ih λm=>some (b::m)) l) with
 | none=>rfl
 | some m=>simp[qJ,Cf]
def YA(p:G->Option Nat)(v:G)(l:List G):Y4 p (v::l)=bnd (p v) λb=>bnd (Y4 p l) λm=>some (b::m):=by
 rw[cQ,cQ]
def It:∀(t:M G) (n:Nat),tight t n=true->(∀i,i<n->∃v,t.get i=some v/\Zh v=true)/\∀i,n<=i->t.get i=none:=by
 intro t
 induction t with
 | nil=>
  intro n h;have h:Nat.beq n 0=true:=h;rw[zA,Ll]at h;subst h
  exact⟨λi hi=>I,λi _=>M.get_nil i⟩
 | node l v r f d=>
  intro n h
  cases n with
  | zero=>cases h
  | succ m=>
   have h:Z v false (λa=>ifB (Zh a) (ifB (tight l (Nat.div (Nat.succ m) 2)) (tight r (Nat.div m 2)) false) false)=true:=h
   cases v with
   | none=>cases h
   | some a=>
    rw[ze,zo]at h;split at h
    .rename_i ha;rw[zo]at h;split at h
     .rename_i hl;obtain⟨l1,l2⟩:=f _ hl;obtain⟨r1,r2⟩:=d _ h;have e1:Nat.div (Nat.succ m) 2=(m+1) / 2:=rfl;have e2:Nat.div m 2=m / 2:=rfl;rw[e1]at l1 l2;rw[e2]at r1 r2
      have parts:∀i:Nat,i=0\/(∃j,i=2*j+1)\/∃j,i=2*j+2:=λi=>by
       rcases eq_zero_or_pos i with h|h
       .exact .inl h
       .rcases mod_two_eq_zero_or_one i with h2|h2
        .exact .inr (.inr ⟨i / 2-1,I⟩)
        .exact .inr (.inl ⟨i / 2,I⟩)
      refine⟨λi hi=>?_,λi hi=>?_⟩
      .rcases parts i with rfl|⟨j,rfl⟩|⟨j,rfl⟩
       .exact⟨a,QM _ _ _,ha⟩
       .rw[Zb];exact l1 j I
       .rw[yz];exact r1 j I
      .rcases parts i with rfl|⟨j,rfl⟩|⟨j,rfl⟩
       .omega
       .rw[Zb];exact l2 j I
       .rw[yz];exact r2 j I
     .cases h
    .cases h
def fY{d:Type}:∀(n:Nat) (t:M d) (o:Nat),(∀i,i<n->∃v,t.get (o+i)=some v)->∃l,M.kX n t o=some l
 | 0,_,_,_=>⟨[],rfl⟩
 | n+1,t,o,h=>by
  obtain⟨v,hv⟩:=h 0 I
  obtain⟨l,hl⟩:=fY n t (o+1) λi hi=>by
   obtain⟨u,hu⟩:=h (i+1) I;exact⟨u,by rw[<- hu];congr 1;omega⟩
  refine⟨v::l,?_⟩;show(bnd (t.get o) λa=>bnd (M.kX n t (o+1)) λl=>some (a::l))=_;rw[show t.get o=some v from hv,hl];rfl
def mB{a:Type}(n:Nat)(t:M a)(o:Nat)(h:∀i,i<n->∃v,t.get (o+i)=some v):∃l,M.Xu n t o=some l:=by
 obtain⟨l,hl⟩:=fY n t o h;exact⟨l,by rw[M.C2];exact hl⟩
def Be{H H' : Heap}{e : TypeId}{a : Nat}{s : Sl}{n : Nat}{new : List G}{v : G}(h : pG H e a s n new = some (v, H')) :
    ∃B k c c', H' = ⟨M.set B H.next (.cells e k c'), H.next + 1⟩ /\ Z8 H e a s n new = some (v, ⟨M.set B H.next (.cells e k c), H.next + 1⟩) /\ ∀i, c'.get i = c.get i := by
  unfold pG at h;obtain⟨r, hr, h⟩ := D h;rw[qg, zo] at h;split at h
  · rename_i f
    rw[zl, Le, zA, Ll] at f;obtain⟨Q, f⟩ := f;obtain⟨f1, f2⟩ := It _ _ f
    obtain⟨old, hold⟩ := mB (Nat.mul s.len a) r.c s.off λi hi => by
      obtain⟨u, hu, _⟩ := f1 i hi;exact⟨u, by rw[Q, Lz]; exact hu⟩
    obtain⟨g1, g2⟩ := M.jZ _ _ _ _ hold
    have d : Jb Zh old = true := by
      rw[Z9, Ad];intro u hu;obtain⟨i, hi, rfl⟩ := List.getElem_of_mem hu;obtain⟨u', z, ok⟩ := f1 i (by rw[<- g1]; exact hi);have := g2 i (by rw[<- g1]; exact hi);rw[Q, Lz, z, Ly hi] at this;cases this;exact ok
    have key : ∀(H2 : Heap) (r2 : G × Heap), dS H2 e (Nat.add s.len n) (Nat.mul s.len a) r.c new = some r2 ->
        ∃c', r2 = (.slice H2.next 0 (s.len + n) (s.len + n) false, ⟨M.set H2.blk H2.next (.cells e (old.length + new.length) c'), H2.next + 1⟩) /\
          Ja H2 e (Nat.add s.len n) (zX old new) = some (.slice H2.next 0 (s.len + n) (s.len + n) false, ⟨M.set H2.blk H2.next (.cells e (old.length + new.length) (M.ofList (old ++ new))), H2.next + 1⟩) /\
          ∀i, c'.get i = (M.ofList (old ++ new)).get i := by
      intro H2 r2 h2;unfold dS at h2;obtain⟨h3, h2⟩ := zh h2;simp only[qg] at h2;cases h2;refine⟨M.nC new r.c (Nat.mul s.len a), ?_, ?_, λi => ?_⟩
      · rw[jV, g1]; rfl
      · unfold Ja
        rw[zZ]
        have h4 : Jb Zh (old ++ new) = true := by
          rw[Z9, Ad] at h3 d ⊢;intro u hu;rcases LJ.1 hu with hu|hu
          · exact d u hu
          · exact h3 u hu
        rw[h4, qX];simp only[qg];show some (G.slice H2.next 0 (s.len + n) (s.len + n) false, Heap.new ⟨H2.blk, H2.next⟩ e (old ++ new)) = _;unfold Heap.new;rw[jV, Lm]
      · rw[M.fZ, M.qy]
        have T : old.length = Nat.mul s.len a := g1;by_cases hi : Nat.mul s.len a <= i /\ i < Nat.mul s.len a + new.length
        · rw[Y hi, Aj I, T]
        · rw[O hi]
          rcases LD i (Nat.mul s.len a) with h5|h5
          · rw[Ao I]
            have := g2 i h5;rw[Q, Lz] at this;exact this
          · rw[f2 i h5, Au (by rw[Lm]; omega)]
    have h0 : Z8 H e a s n new = ifB s.ex (Ja H e (Nat.add s.len n) (zX old new))
      (ifB (L (Nat.ble 100 s.b) (L (Nat.beq r.t e) (L (Nat.beq (Nat.mod s.off a) 0) (Nat.beq (Nat.add s.off (Nat.mul s.cap a)) r.n)))) (Ja ⟨H.blk.del s.b, H.next⟩ e (Nat.add s.len n) (zX old new)) none) := by
      unfold Z8;rw[hr, qJ, hold, qJ]
    rw[h0];rw[zo] at h;rw[zo];split at h
    · rename_i hx
      obtain⟨c', g, k2, k3⟩ := key _ _ h;cases g;rw[Y hx];exact⟨H.blk, _, _, c', rfl, k2, k3⟩
    · rename_i hx
      rw[O hx];obtain⟨hb, h⟩ := zh h;obtain⟨c', g, k2, k3⟩ := key _ _ h;cases g;rw[hb, qX];exact⟨H.blk.del s.b, _, _, c', rfl, k2, k3⟩
  · have h1 := h
    unfold Z8 at h;rw[hr, qJ] at h;obtain⟨old, hold, h⟩ := D h
    have key : ∀(H2 : Heap), H2.next = H.next -> Ja H2 e (Nat.add s.len n) (zX old new) = some (v, H') -> ∃B k c c', H' = ⟨M.set B H.next (.cells e k c'), H.next + 1⟩ /\ Z8 H e a s n new = some (v, ⟨M.set B H.next (.cells e k c), H.next + 1⟩) /\ ∀i, c'.get i = c.get i := by
      intro H2 hn h2;rw[<- hn];unfold Ja at h2;obtain⟨_, h2⟩ := zh h2;simp only[qg] at h2;have h2 := ks h2;cases h2;exact⟨H2.blk, _, _, _, rfl, h1, λ_ => rfl⟩
    rw[zo] at h;split at h
    · exact key H rfl h
    · obtain⟨_, h⟩ := zh h
      exact key ⟨H.blk.del s.b, H.next⟩ rfl h
section
variable{E:Env}(hE:yF E)
include hE
omit hE in
theorem aq(s:Eb)(hs:∀b∈s,b<256)(β:Inj):((str s).data.map λb=>Value.int .u8 b.toNat)=(K β (mapA u8 s)).toArray:=by
 apply Array.toList_inj.1;simp only[Array.toList_map,X1,LZ,zC,jI];apply Ab;intro b hb;have:=hs b hb;simp[u8,J];omega
omit hE in
theorem RI(β:Inj)(s:Eb):WFs β (mapA u8 s):=by
 rw[qb,jI];intro v hv;obtain⟨b,_,rfl⟩:=Lv.1 hv;trivial
theorem aw(hR:Rel P β H w){a:Nat}{p:Nat×List G}(h:Zk H a x=some p)(hx:WF β x) :
  (Builtin.lenOf (J β x)).run P w = .ok p.1 w/\(Builtin.firstCells a p.1 (J β x)).run P w = .ok (K β p.2).toArray w/\WFs β p.2 /\
  (∀m,m<=p.1->p.2.length=p.1*a->(Builtin.firstCells a m (J β x)).run P w = .ok (K β (p.2.take (m*a))).toArray w):=by
 have _:=hE;unfold Zk at h
 cases h1:yp x with
 | some s=>
  obtain rfl:=kc h1;rw[h1,ze]at h;replace h:=D h;obtain⟨l,hl,h⟩:=h;cases h;obtain⟨g1,g2,g⟩:=hR.yl hl hx.1;refine⟨by simp[Builtin.lenOf,J],?_,g2,λm hm hlen=>?_⟩
  .have g:(loadCells (β.addr s.b s.off) (s.len*a)).run P w = .ok (K β l).toArray w:=g;simp[Builtin.firstCells,J,g]
  ·
   replace hl:=D hl;obtain⟨r,hr,hl⟩:=hl;obtain⟨z,k2⟩:=M.jZ _ _ _ _ hl;have f:m*a<=l.length:=by rw[hlen];exact mul_le_mul_right _ hm
   have:=run_loadCells_list (P:=P) (w:=w) (β.addr s.b s.off) (K β (l.take (m*a))) (by
    intro j v d;rw[zC,Lw,getElem?_take]at d;split at d
    .rename_i T
     cases hv:l[j]? with
     | none=>rw[hv]at d;cases d
     | some u=>
      rw[hv]at d;cases d;rw[Inj.jS];refine(hR.cell hr hx.1 ?_).1;rw[k2 j (by rw[<- z];omega)];exact hv
    .cases d)
   rw[zC,Ls,Ar,Nat.min_eq_left f,<- zC]at this
   simp[Builtin.firstCells,J,this]
 | none=>
  rw[h1,zn]at h
  cases h2:js x with
  | some s=>
   obtain rfl:=qU h2;rw[h2,ze,jV]at h;cases h;refine⟨by simp[Builtin.lenOf,J,qA],?_,RI β s,λm hm hlen=>?_⟩
   .have e:(str s).extract 0 s.length=str s:=by
     apply ByteArray.ext;apply Array.toList_inj.1;simp only[str,ByteArray.data_extract,toList_extract,extract_eq_take_drop,drop_zero,Nat.sub_zero];exact AO Oc
    simp only[Builtin.firstCells,J,Ln,e,aq s hx β]
   .have Q:s.length=s.length*a:=by simpa using hlen
    have e:(str s).extract 0 m=str (s.take m):=by
     apply ByteArray.ext;apply Array.toList_inj.1;simp[str,extract_eq_take_drop]
    have e2:(mapA u8 s).take (m*a)=mapA u8 (s.take m):=by
     simp only[jI,map_take];by_cases h0:s.length=0
     .have:s=[]:=List.length_eq_zero_iff.1 h0;simp[this]
     .have:a=1:=by
       rcases Nat.lt_trichotomy a 1 with h|h|h
       .have:a=0:=by omega
        subst this;omega
       .exact h
       .have:s.length*1<s.length*a:=Nat.mul_lt_mul_of_pos_left h I;omega
      rw[this,Ak]
    simp only[Builtin.firstCells,J,Ln,e,e2]
    rw[aq (s.take m) (λb hb=>hx b (mem_of_mem_take hb)) β]
  | none=>
   rw[h2,zn]at h;replace h:=zh h;obtain⟨h3,h⟩:=h;obtain rfl:=jO h3;cases h;exact⟨by simp[Builtin.lenOf,J],by simp[Builtin.firstCells,J,K],trivial,λm hm _=>by simp[Builtin.firstCells,J,K]⟩
omit hE in
theorem Gn(n:Nat):∀r c,c<=2*n+1000->c<n\/n<=c->Builtin.growBy n r c<=2*n+1000:=by
 intro r
 induction r with
 | zero=>intro c h _;exact h
 | succ r ih=>
  intro c h _;simp only[Builtin.growBy];split
  .exact h
  .exact ih _ I I
omit hE in
theorem wC(n c:Nat)(h:c<n):Builtin.nextslicecap n c<=2*n+1000:=by
 unfold Builtin.nextslicecap;split
 .omega
 .split
  .omega
  .exact Gn n _ _ I I
omit hE in
theorem xy(need old:Nat)(e:Eg)(t:Nat):need<=(Question.appendCap need old e).cut t:=by
 simp[Question.cut]
def dW(E:Env)(β:Inj)(w:Ea)(e:Eg)(i:TypeInfo)(xd:Es)(x:G)(n:Nat)(new:List G):Prop:=
 (isInt xd=false/\(Builtin.lenOf (J β x)).run E.P w = .ok n w/\∀w',Alike w w'->(Builtin.firstCells i.size n (J β x)).run E.P w' = .ok (K β new).toArray w') \/
 (isInt xd=true/\J β x = .int .i64 n/\n*i.bytes<=1000000000/\n<=1000000000/\∃z,E.zero e=some z/\(zU z).length=i.size/\new=Jg (zU z) n)
theorem vd(β:Inj)(z:G)(n:Nat):Builtin.zeroCells (J β z).cells n=(K β (Jg (zU z) n)).toArray:=by
 have _:=hE;unfold Builtin.zeroCells;have:=Jp (β:=β) (zU z) (zU z).length n rfl (J β z).cells (λ_=>jm β z);rw[show(J β z).cells.size=(zU z).length by rw[jm,zC];simp];rw[show(J β z).cells.size=(zU z).length by rw[jm,zC];simp]at this;exact this
theorem lD{s:Nat}(f:E.zero e=some z)(a:(zU z).length=s) :
  (if n*s=0 then(pure #[]:Sem (Array Value)) else do pure (Builtin.zeroCells (<- zeroValue e).cells n)).run E.P w = .ok (K β (Jg (zU z) n)).toArray w:=by
 obtain⟨d,_⟩:=yi hE f β w;split
 .rename_i h;have:Jg (zU z) n=[]:=List.length_eq_zero_iff.1 (by rw[Xl _ s a];exact h);rw[this];simp[K]
 .simp only[Lg,d,Li,Ln,vd hE β z]
omit hE in
theorem wrap_i64(h:n<=1000000000):IntKind.i64.wrap (n:Int)=n:=by
 unfold IntKind.wrap IntKind.signed IntKind.bits;simp;omega
omit hE in
theorem m6(P:Ef)(w:Ea)(k:Et)(n:Int):(Go.asInt (.int k n)).run P w = .ok n w:=by
 unfold Go.asInt Go.asIntOf;simp
omit hE in
theorem alike_refl(w:Ea):Alike w w:=⟨rfl,rfl,rfl,rfl⟩
theorem run_append_grow{β : Inj}{w : World}{sT xT : TypeId}{e : TypeId}{g : TypeDesc}{i : TypeInfo}{z : G}{base : Option Addr}{sLen sCap n : Nat}{x : G}{old new : List G}
    (hs : E.desc sT = some (.slice e)) (hxd : E.desc xT = some g) (hi : E.types.get e = some i) (hz : E.zero e = some z) (hzs : (zU z).length = i.size)
    (hroom : (sLen + n) * i.bytes <= 1000000000) (hroom2 : sLen + n <= 1000000000) (hmode : dW E β w e i g x n new)
    (hold : ∀w', Alike w w' -> (Builtin.firstCells i.size sLen (.slice base sLen sCap)).run E.P w' = .ok (K β old).toArray w')
    (hcap : sCap < sLen + n) (ty : TypeId) :
    ∃k extra, extra.length = k * i.size /\ (Builtin.append_ #[sT, xT] ty #[.slice base sLen sCap, J β x]).run E.P w =
      .ok (.slice (some ⟨w.heap.size, 0, none⟩) (sLen + n) (sLen + n + k)) (push { w with drawn := w.drawn + 1 } (.cells (K β (old ++ new) ++ extra).toArray e)) := by
  have T : E.size e = some i.size := by unfold Env.size; rw[hi]; rfl
  have hq := xy (sLen + n) sCap e (w.tape w.drawn (.appendCap (sLen + n) sCap e));generalize hcut : (Question.appendCap (sLen + n) sCap e).cut (w.tape w.drawn (.appendCap (sLen + n) sCap e)) = newCap at hq;refine⟨newCap - (sLen + n), (Builtin.zeroCells (J β z).cells (newCap - (sLen + n))).toList, ?_, ?_⟩
  · simp[Builtin.zeroCells, jm, zC, hzs]
  · have hA := ZC w
    obtain⟨z1, z2⟩ := yi hE hz β { w with drawn := w.drawn + 1 };have hnc := wC (sLen + n) sCap hcap
    have hle : Builtin.nextslicecap (sLen + n) sCap * i.bytes <= 2 ^ 48 := by
      have h1 : Builtin.nextslicecap (sLen + n) sCap * i.bytes <= (2 * (sLen + n) + 1000) * i.bytes := mul_le_mul_right _ hnc;have h2 : i.bytes <= (sLen + n) * i.bytes := Nat.le_mul_of_pos_left _ I;have h3 : (2 * (sLen + n) + 1000) * i.bytes = 2 * ((sLen + n) * i.bytes) + 1000 * i.bytes := by rw[Nat.add_mul, Nat.mul_assoc]
      omega
    have a : ¬(((sLen + n : Nat) : Int) > IntKind.i64.max) := by
      have : IntKind.i64.max = 9223372036854775807 := by decide
      rw[this]; omega
    have ea : (K β old).toArray ++ (K β new).toArray ++ Builtin.zeroCells (J β z).cells (newCap - (sLen + n)) =
        (K β (old ++ new) ++ (Builtin.zeroCells (J β z).cells (newCap - (sLen + n))).toList).toArray := by
      apply Array.toList_inj.1;simp[zC]
    unfold Builtin.append_;simp only[AB, getElem?_cons_zero, Ap, Lg, zr hE hs, Li, qK hE T, zr hE hxd, Ln];rcases hmode with⟨hni, hlen, f⟩|⟨Q, hcx, hb1, hb2, z', u, d, hnw⟩
    · cases g
      case int => simp[isInt] at hni
      all_goals
        simp only[Ai, LY, Bool.not_false, if_true, false_or];rw[Lg, hlen, Li, O I];simp only[Lg, yJ hE hi, Li];rw[O (λh => a h.1)];simp only[Lg, yJ hE hi, Li];rw[O I];simp only[Lg, run_choose, Question.forced, Ai, LY, Li, yJ hE hi, run_askRoom, hcut, hold _ hA, f _ hA, z1];simp only[newRow, Lg, run_newObj, Ln, Li];rw[show sLen + n + (newCap - (sLen + n)) = newCap by omega];rw[ea]; rfl
    · cases g
      case int k' =>
        have hw := lD (β := β) (w := { w with drawn := w.drawn + 1 }) (n := n) hE u d;rw[<- hnw] at hw;simp only[if_true, Bool.not_true, Ai, LY, true_or, and_true, hcx];simp only[Lg, m6, wrap_i64 hb2, Li];rw[O I];simp only[Lg, yJ hE hi, Li];rw[O I];simp only[toNat_natCast];rw[Lg, Ln, Li, O I];simp only[Lg, yJ hE hi, Li];rw[O a];simp only[Lg, yJ hE hi, Li];rw[O I];simp only[Lg, run_choose, Question.forced, Ai, LY, Li, yJ hE hi, run_askRoom, hcut, hold _ hA, hw, z1];simp only[newRow, Lg, run_newObj, Ln, Li];rw[show sLen + n + (newCap - (sLen + n)) = newCap by omega];rw[ea]; rfl
      all_goals simp[isInt] at Q
theorem Zn{g:Es}{i:TypeInfo}{base:Ed}{sLen:Nat}{new:List G}
  (hs:E.desc T=some (.slice e)) (hxd:E.desc xT=some g) (hi:E.types.get e=some i) (hmode:dW E β w e i g x n new)
  (hst:(match base with|some a=>storeCells (a.add (sLen*i.size)) (K β new)|none=>(pure ():Sem Unit)).run E.P w = .ok () w')
  (hcap:sLen+n<=sCap) (ty:Eg) :
  (Builtin.append_ #[T,xT] ty #[.slice base sLen sCap,J β x]).run E.P w = .ok (.slice base (sLen+n) sCap) w':=by
 have Q:E.size e=some i.size:=by unfold Env.size;rw[hi];rfl
 unfold Builtin.append_;simp only[AB,getElem?_cons_zero,Ap,Lg,zr hE hs,Li,qK hE Q,zr hE hxd,Ln];rcases hmode with⟨hni,hlen,f⟩|⟨z,hcx,hb1,hb2,z',u,d,hnw⟩
 .cases g
  case int=>simp[isInt]at hni
  all_goals
   simp only[Ai,LY,Bool.not_false,if_true];rw[Lg,hlen,Li,Y hcap];simp only[Lg,f _ (alike_refl w),Li]
   cases base with
   | none=>simp at hst ⊢;exact hst
   | some a=>simp only[Lg,hst,Li,Ln]
 .cases g
  case int k'=>
   have hw:=lD (β:=β) (w:=w) (n:=n) hE u d;rw[<- hnw]at hw;simp only[if_true,Bool.not_true,Ai,LY,hcx];simp only[Lg,m6,wrap_i64 hb2,Li];rw[O I];simp only[Lg,yJ hE hi,Li];rw[O I];simp only[toNat_natCast];rw[Lg,Ln,Li,Y hcap];simp only[Lg,hw,Li]
   cases base with
   | none=>simp at hst ⊢;exact hst
   | some a=>simp only[Lg,hst,Li,Ln]
  all_goals simp[isInt]at z
theorem J5{a:Nat}(h:yI E e a=true):∃z,E.zero e=some z/\(zU z).length=a:=by
 have _:=hE;unfold yI at h
 cases d:E.zero e with
 | none=>rw[d]at h;cases h
 | some z=>rw[d,ze,zA,jV,Ll]at h;exact⟨z,rfl,h⟩
theorem Rel.grown(hR:Rel P β H w)(e:Eg)(hl:WFs β l){k:Nat}(f:extra.length=k*qS P e) :
  Rel P (β.put H.next (w.heap.size,0,k)) (Heap.new H e l) (push { w with drawn:=w.drawn+1 } (.cells (K β l++extra).toArray e)) /\
  Ext β H w (β.put H.next (w.heap.size,0,k)) (Heap.new H e l) (push { w with drawn:=w.drawn+1 } (.cells (K β l++extra).toArray e)):=by
 have _:=hE;have d:=ZC w;have a:=hR.alike d;obtain⟨h1,h2⟩:=a.newRow (t:=e) (e:=k) (fz:=(0,0)) (kE.ofList hl extra k I (0,0) Oc);exact⟨h1,(Ext.alike hR.bnd d).trans h2⟩
theorem bf{P : Program}{β : Inj}{H : Heap}{w w' : World}(hR : Rel P β H w)(d : Alike w w'){a : Nat}{x : G}{p : Nat × List G}(h : Zk H a x = some p)(hx : WF β x) :
    (Builtin.firstCells a p.1 (J β x)).run P w' = .ok (K β p.2).toArray w' := (aw hE (hR.alike d) h hx).2.1
theorem Rl(hR:Rel E.P β H w){i:TypeInfo}{f:Es}{p:Nat×List G}
  (h:ifB (isInt f) (Hp E e i x) (Zk H i.size x)=some p) (hx:WF β x):dW E β w e i f x p.1 p.2/\WFs β p.2:=by
 rw[zo]at h;split at h
 .rename_i a;replace h:=D h;obtain⟨q,hq,h⟩:=h;obtain rfl:=jx hq;replace h:=zh h;obtain⟨d,h⟩:=h;have d:=Zp d;replace h:=jq h;obtain⟨n,hn,h⟩:=h;replace h:=zh h;obtain⟨hr,h⟩:=h;unfold roomy at hr;rw[zl,Le,zK,zK,Lk,Lk]at hr;replace h:=D h;obtain⟨z,g,h⟩:=h;replace h:=zh h;obtain⟨hs,h⟩:=h;rw[zA,jV,Ll]at hs;cases h;refine⟨Or.inr ⟨a,by simp[J,d,hn],hr.1,hr.2,z,g,hs,rfl⟩,aD (j9 (yi hE g β w).2) _⟩
 .rename_i a;obtain⟨g1,T,Q,_⟩:=aw hE hR h hx;exact⟨Or.inl ⟨by simpa using a,g1,λw' u=>bf hE hR u h hx⟩,Q⟩
theorem XT(hR:Rel E.P β H w){s:G}(h:bI E H T xT s x=some (v,H'))(hs:WF β s)(hx:WF β x)(ty:Eg) :
  Sim E.P β H w (Builtin.append_ #[T,xT] ty #[J β s,J β x]) v H':=by
 replace h:=D h;obtain⟨d,hd,h⟩:=h;replace h:=D h;obtain⟨e,he,h⟩:=h;obtain rfl:=j4 he;replace h:=D h;obtain⟨xd,hxd,h⟩:=h;replace h:=D h;obtain⟨i,hi,h⟩:=h;replace h:=D h;obtain⟨p,hp,h⟩:=h;replace h:=zh h;obtain⟨hpl,h⟩:=h;rw[zA,jV,Ll]at hpl;have hpl:p.2.length=p.1*i.size:=hpl;obtain⟨a,g3⟩:=Rl hE hR hp hx;have g:qS E.P e=i.size:=(QI hE (show E.size e=some i.size by unfold Env.size;rw[hi];rfl)).choose_spec.2.2.2;unfold bF at h
 cases h1:yp s with
 | none=>
  rw[h1,zn]at h;replace h:=zh h;obtain⟨h2,h⟩:=h;obtain rfl:=jO h2;obtain⟨n,l⟩:=p
  cases n with
  | zero=>
   cases h;refine qk.sim ⟨?_,trivial⟩ hR
   exact Zn hE (base:=none) (sLen:=0) (sCap:=0) hd hxd hi a rfl (Lh _) ty
  | succ n=>
   rw[Vc]at h;replace h:=zh h;obtain⟨h3,h⟩:=h;rw[zl,Le]at h3;obtain⟨z,hz,hzs⟩:=J5 hE h3.1;have h4:=h3.2;unfold roomy at h4;rw[zl,Le,zK,zK,Lk,Lk]at h4;replace h:=zh h;obtain⟨h5,h⟩:=h;simp only[qg]at h;have h:=ks h;cases h
   obtain⟨k,extra,k1,k2⟩:=run_append_grow hE (sLen:=0) (sCap:=0) (base:=none) (old:=[]) (new:=l) (n:=n+1) hd hxd hi hz hzs (by simpa using h4.1) (by simpa using h4.2) a
    (λw' _=>by simp[Builtin.firstCells,K]) I ty
   obtain⟨r1,r2⟩:=hR.grown hE e g3 (k:=k) (extra:=extra) (by rw[g];exact k1);refine⟨_,_,?_,⟨by simp[Inj.zS],Lh _⟩,r1,r2⟩;rw[show J β .nilslice = .slice none 0 0 from rfl,k2]
   simp[J,yV,UM]
 | some q=>
  obtain rfl:=kc h1;rw[h1,ze,zo,zK]at h;split at h
  ·
   rename_i hc;rw[Lk]at hc;have hc:q.len+p.1<=q.cap:=hc;replace h:=D h;obtain⟨H1,hst,h⟩:=h;cases h;obtain⟨w',s1,s2,s3⟩:=hR.Jz hst hs.1 g3;refine⟨β,w',?_,⟨hs.1,hc⟩,s2,s3⟩;have e1:(β.addr q.b q.off).add (q.len*i.size)=β.addr q.b (Nat.add q.off (Nat.mul q.len i.size)):=Inj.jS _ _ _ _;exact Zn hE (base:=some (β.addr q.b q.off)) hd hxd hi a (by show(storeCells _ _).run _ _=_;rw[e1];exact s1) (by split<;>omega) ty
  .rename_i hc;rw[Lk]at hc;have hc:¬q.len+p.1<=q.cap:=hc;replace h:=zh h;obtain⟨h3,h⟩:=h;rw[zl,Le]at h3;obtain⟨z,hz,hzs⟩:=J5 hE h3.1;have h4:=h3.2;unfold roomy at h4;rw[zl,Le,zK,zK,Lk,Lk]at h4;obtain⟨h41,h42⟩:=h4;have h41:(q.len+p.1)*i.bytes<=1000000000:=h41;have h42:q.len+p.1<=1000000000:=h42;replace h:=D h;obtain⟨r,hr,h⟩:=h;replace h:=D h;obtain⟨old,hold,h⟩:=h
   have hl:H.yl q.b q.off (q.len*i.size)=some old:=by
    unfold Heap.yl;rw[hr];exact hold
   have hold':∀c w',Alike w w'->(Builtin.firstCells i.size q.len (.slice (some (β.addr q.b q.off)) q.len c)).run E.P w' = .ok (K β old).toArray w':=by
    intro c w' hA;have:=((hR.alike hA).yl hl hs.1).2.2;simp[Builtin.firstCells,this]
   have hWold:WFs β old:=(hR.yl hl hs.1).2.1;have f:old.length=q.len*i.size:=(hR.yl hl hs.1).1
   have Q:WFs β (old++p.2):=by
    rw[qb]at *;intro v hv;rcases LJ.1 hv with hv|hv
    .exact hWold v hv
    .exact g3 v hv
   rw[zo]at h;split at h
   ·
    rename_i hex;replace h:=zh h;obtain⟨h5,h⟩:=h;simp only[qg]at h;have h:=ks h;cases h
    obtain⟨k,extra,k1,k2⟩:=run_append_grow hE (sLen:=q.len) (sCap:=q.cap) (base:=some (β.addr q.b q.off)) (old:=old) (new:=p.2) (n:=p.1) hd hxd hi hz hzs h41 h42 a
     (hold' _) I ty
    obtain⟨r1,r2⟩:=hR.grown hE e Q (k:=k) (extra:=extra) (by rw[g];exact k1);refine⟨β.put H.next (w.heap.size,0,k),_,?_,⟨by simp[Inj.zS],Lh _⟩,by rw[zZ];exact r1,by rw[zZ];exact r2⟩;rw[show J β (.slice q.b q.off q.len q.cap q.ex) = .slice (some (β.addr q.b q.off)) q.len q.cap by simp[J,hex],k2];simp[J,yV,UM]
   .rename_i hex;replace h:=zh h;obtain⟨hk,h⟩:=h;rw[zl,Le,zl,Le,zl,Le,zA,Ll,zA,Ll,zA,Ll,zK,Lk]at hk;obtain⟨h60,hrt,hal,hk⟩:=hk;have hal:q.off % i.size=0:=hal;have hk:q.off+q.cap*i.size=r.n:=hk;replace h:=zh h;obtain⟨h5,h⟩:=h;simp only[qg]at h;have h:=ks h;cases h;obtain⟨y,hy⟩:=LM.1 hs.1;obtain⟨hD1,hD2⟩:=hR.del h60 hy
    have hcs:J β (.slice q.b q.off q.len q.cap q.ex) = .slice (some (β.addr q.b q.off)) q.len (q.cap+β.ext q.b):=by
     simp only[J];rw[O hex]
    rcases LD (q.cap+β.ext q.b) (q.len+p.1) with hlt|hge
    ·
     obtain⟨k,extra,k1,k2⟩:=run_append_grow hE (sLen:=q.len) (sCap:=q.cap+β.ext q.b) (base:=some (β.addr q.b q.off)) (old:=old) (new:=p.2) (n:=p.1) hd hxd hi hz hzs h41 h42 a
      (hold' _) hlt ty
     obtain⟨r1,r2⟩:=hD1.grown hE e Q (k:=k) (extra:=extra) (by rw[g];exact k1);refine⟨β.put H.next (w.heap.size,0,k),_,?_,⟨by simp[Inj.zS],Lh _⟩,by rw[zZ];exact r1,by rw[zZ];exact hD2.trans r2⟩;rw[hcs,k2];simp[J,yV,UM]
    ·
     obtain⟨arr,fz,a1,a2⟩:=hR.rowAt hr hs.1;have hsize:=a2.size;rw[hrt,g]at hsize;have hmul:(q.cap+β.ext q.b)*i.size=q.cap*i.size+β.ext q.b*i.size:=Nat.add_mul _ _ _;have hmul2:(q.len+p.1)*i.size<=(q.cap+β.ext q.b)*i.size:=mul_le_mul_right _ hge;have hmul3:(q.len+p.1)*i.size=q.len*i.size+p.1*i.size:=Nat.add_mul _ _ _
     have hok:∀v∈p.2,Zh v=true:=by
      rw[Z9,Ad]at h5;intro v hv;exact h5 v (by rw[zZ];exact Ay _ hv)
     obtain⟨w',arr',s1,s2,s3,s4,s5⟩:=VU (P:=E.P) (β.blk q.b) (β.sh q.b+q.off+q.len*i.size) r.t fz (K β p.2) 0 w arr a1 a2.thaw
      (by rw[zC,Ls];omega) (by
       intro u hu;rw[zC]at hu;obtain⟨v,hv,rfl⟩:=Lv.1 hu
       exact aP (hok v hv))
     have hx1:β.blk q.b=y.1:=by simp[Inj.blk,hy]
     let y':Nat×Nat×Nat:=(β.blk q.b,β.sh q.b+q.off,q.cap+β.ext q.b-(q.len+p.1))
     have hrow:kE E.P β e (je (old++p.2) 0) (M.ofList (old++p.2)) y'.2.1 y'.2.2 arr' fz:=by
      refine⟨?_,?_,by rw[s4];exact a2.thaw,by rw[g];exact Nat.dvd_add (by have:=a2.al;rwa[hrt,g]at this) (dvd_of_mod_eq_zero hal)⟩
      .rw[s4,jV,Lm,f,hpl,g];have:(q.cap+β.ext q.b-(q.len+p.1))*i.size=(q.cap+β.ext q.b)*i.size-(q.len+p.1)*i.size:=Nat.sub_mul _ _ _;show β.sh q.b+q.off+(q.len*i.size+p.1*i.size)+(q.cap+β.ext q.b-(q.len+p.1))*i.size<=arr.size;omega
      .intro k v hv;rw[M.qy]at hv;refine⟨(qb _ _).1 Q v (LX hv),?_⟩;show arr'[β.sh q.b+q.off+k]?=_;rw[s5,zC,Ls];by_cases hk2:k<old.length
       .rw[Ao hk2]at hv;rw[O I];obtain⟨t1,t2⟩:=M.jZ _ _ _ _ hold;have:=a2.cell (q.off+k) v (by rw[t2 k (by rw[f]at hk2;exact hk2)];exact hv);rw[<- this.2];congr 1;omega
       .rw[Aj I]at hv;have hk3:=(LL.1 hv).1;rw[Y I,Lw];have:β.sh q.b+q.off+k-(β.sh q.b+q.off+q.len*i.size+0)=k-old.length:=by omega
        rw[this,hv];rfl
     obtain⟨b0,hb0,_⟩:=JG hr
     obtain⟨r1,r2⟩:=hR.rename (b':=.cells e (je (old++p.2) 0) (M.ofList (old++p.2))) (y:=y') h60 hb0 hy hx1 (by rw[<- hx1];exact s3)
      ⟨arr',fz,by rw[<- hrt];exact s2,hrow.mono (Inj.yL (hR.fresh (Lh _)))⟩
     refine⟨β.put H.next y',w',?_,⟨by simp[Inj.zS],Lh _⟩,by rw[zZ];exact r1,by rw[zZ];exact r2⟩
     have e1:(β.addr q.b q.off).add (q.len*i.size)=⟨β.blk q.b,β.sh q.b+q.off+q.len*i.size,none⟩:=by
      rw[Inj.jS];simp[Inj.addr,AU]
     rw[hcs,Zn hE (w':=w') (base:=some (β.addr q.b q.off)) hd hxd hi a (by show(storeCells _ _).run _ _=_;rw[e1];exact s1) hge ty];simp only[J,Ai,LY];congr 2
     .simp[Inj.addr,Inj.blk,Inj.sh,Inj.zS,y']
     .simp only[Inj.ext,Inj.zS,LW,y'];show q.cap+β.ext q.b=q.len+p.1+(q.cap+β.ext q.b-(q.len+p.1));omega
omit hE in
theorem Rel.Iy{B:M X}{id nx:Nat}{b b':X}(h:Rel P β ⟨M.set B id b,nx⟩ w)(hc:∀β x w,zO P β b x w->zO P β b' x w):Rel P β ⟨M.set B id b',nx⟩ w:=by
 have get:∀i c,(M.set B id b').get i=some c->∃c',(M.set B id b).get i=some c'/\∀x,zO P β c' x w->zO P β c x w:=by
  intro i c hb;rw[M.zN]at hb;rw[M.zN];split at hb
  .rename_i hi;cases hb;exact⟨_,Y hi,λx hx=>hc _ _ _ hx⟩
  .rename_i hi;exact⟨c,by rw[O hi];exact hb,λ_ hx=>hx⟩
 refine⟨h.base,λi b x hb hx=>?_,λi j b c x y hb hx hc hy e=>?_,h.bnd,λi b hb=>?_⟩
 .obtain⟨b',hb',hr⟩:=get i b hb;exact hr x (h.blk i b' x hb' hx)
 .obtain⟨b',hb',_⟩:=get i b hb;obtain⟨d',hd',_⟩:=get j c hc;exact h.inj i j b' d' x y hb' hx hd' hy e
 .obtain⟨b',hb',_⟩:=get i b hb;exact h.live i b' hb'
omit hE in
theorem Ext.Iy{γ:Inj}{B:M X}{id nx:Nat}{b b':X}(h:Ext β H w γ ⟨M.set B id b,nx⟩ w')(hm:H.next<=id\/(100<=id/\(β id).isSome))(hb:100<=H.next):Ext β H w γ ⟨M.set B id b',nx⟩ w':=by
 have other:∀i,i≠id->(M.set B id b').get i=(M.set B id b).get i:=λi hi=>by
  rw[M.zN,M.zN,O (λe=>hi e.symm),O (λe=>hi e.symm)]
 refine⟨h.old,h.next,λi h1 h2=>?_,λi c h1 h2=>?_,λi h1=>?_,h.new,h.frame,h.size,h.tape,h.os,h.output⟩
 .have hne:i≠id:=by
   rintro rfl
   rcases hm with h3|⟨_,h3⟩
   .omega
   .rw[h2]at h3;cases h3
  exact(other i hne).trans (h.apart i h1 h2)
 .by_cases hi:i=id
  .subst hi;exact h.gone i b h1 (by show(M.set B i b).get i=some b;rw[M.zN,Y rfl])
  .exact h.gone i c h1 ((other i hi).symm.trans h2)
 .have hne:i≠id:=by
   rintro rfl
   rcases hm with h3|⟨h3,_⟩<;>omega
  exact(other i hne).trans (h.ro i h1)
def pO(β:Inj)(H H0 H':Heap):Prop:=
 H'=H0\/∃B id b b' nx,H0=⟨M.set B id b,nx⟩/\H'=⟨M.set B id b',nx⟩/\(∀(P:Ef) (β:Inj) x w,zO P β b x w->zO P β b' x w)/\(H.next<=id\/(100<=id/\(β id).isSome))
omit hE in
theorem Sim.BJ{H0:Heap}{m:Sem Value}(h:Sim P β H w m v H0)(hb:100<=H.next)(hs:pO β H H0 H'):Sim P β H w m v H':=by
 rcases hs with rfl|⟨B,id,b,b',nx,rfl,rfl,h1,h2⟩
 .exact h
 .obtain⟨β',w',r1,r2,r3,r4⟩:=h;exact⟨β',w',r1,r2,r3.Iy (h1 P),r4.Iy h2 hb⟩
omit hE in
theorem gQ{c c':M G}(h:∀i,c'.get i=c.get i){x:Ej}(hr:zO P β (.cells t n c) x w):zO P β (.cells t n c') x w:=by
 obtain⟨arr,fz,h1,h2⟩:=hr;exact⟨arr,fz,h1,h2.size,λi v hv=>h2.cell i v (by rw[<- h];exact hv),h2.thaw,h2.al⟩
omit hE in
theorem lU{N:Nat}{c:M G}(h:∀i,(unp n N).get i=c.get i){x:Ej}(hr:zO P β (.cells t n c) x w):zO P β (.pack t n N) x w:=gQ h hr
omit hE in
theorem Bb{i:TypeInfo}{s:G}{new:List G}(h:Rp E H e i s n new=some (v,H')):∃H0,bF E H e i s n new=some (v,H0)/\pO β H H0 H':=by
 unfold Rp at h;unfold bF
 cases h1:yp s with
 | none=>rw[h1]at h;exact⟨H',h,.inl rfl⟩
 | some q=>
  rw[h1,ze]at h;rw[ze];rw[zo]at h ⊢;split at h
  .rename_i hc;rw[Y hc];exact⟨H',h,.inl rfl⟩
  .rename_i hc;rw[O hc];obtain⟨h2,h⟩:=zh h;rw[h2,qX];obtain⟨B,k,c,c',e1,e2,e3⟩:=Be h;exact⟨_,e2,.inr ⟨B,H.next,_,_,_,rfl,e1,λP β x w hr=>gQ e3 hr,.inl (Lh _)⟩⟩
theorem iu(hR:Rel E.P β H w){g:Eg}{s:G}(h:uX E H T g s x=some (v,H'))(hs:WF β s)(hx:WF β x)(ty:Eg) :
  Sim E.P β H w (Builtin.append_ #[T,g] ty #[J β s,J β x]) v H':=by
 obtain⟨d,hd,h⟩:=D h;obtain⟨e,he,h⟩:=D h;obtain⟨z,a,h⟩:=D h;obtain⟨i,hi,h⟩:=D h;obtain⟨p,hp,h⟩:=D h;obtain⟨hl,h⟩:=zh h;obtain⟨H0,u,f⟩:=Bb (β:=β) h;refine(XT hE hR (v:=v) (H':=H0) ?_ hs hx ty).BJ hR.base f;unfold bI;rw[hd,qJ,he,qJ,a,qJ,hi,qJ,hp,qJ,hl,qX];exact u
omit hE in
theorem mU:∀ {cs:List G}{l:Eb},QY cs=some l->cs=l.map u8/\∀b∈l,b<256
 | [],l,h=>by
  have h:some ([]:List Nat)=some l:=h
  cases h;exact⟨rfl,Oc⟩
 | v::cs,l,h=>by
  have h:(bnd (UT v) λb=>bnd (QY cs) λm=>some (b::m))=some l:=(YA UT v cs).symm.trans h;obtain⟨b,hb,h⟩:=D h;obtain⟨m,hm,h⟩:=D h;cases h;obtain⟨p,hp,hb⟩:=D hb;obtain rfl:=jx hp;obtain⟨hu,hb⟩:=zh hb;obtain⟨n,hn,hb⟩:=jq hb;obtain⟨hl,hb⟩:=zh hb;cases hb;rw[zW,Lk]at hl;obtain⟨e1,e2⟩:=mU hm;refine⟨by rw[Aw,Vk hu,hn,e1];rfl,λx hx=>?_⟩;rcases Lf.1 hx with rfl|hx
  .exact hl
  .exact e2 x hx
structure Qf(bs:Eb)(n N:Nat):Prop where
 len:bs.length=n
 byte:∀b∈bs,b<256
 lt:N<2 ^ (8*n)
 at_:∀i,i<n->bs[i]?=some (byteOf N i)
omit hE in
theorem Qf.XO(h:∀b∈bs,b<256):Qf bs bs.length (XO bs 0 0):=by
 obtain⟨h1,h2⟩:=sI bs 0 0 h C;rw[Lz]at h1;refine⟨rfl,h,h1,λi hi=>?_⟩;have:=h2 i;rw[O I,Nat.sub_zero,Ly hi]at this;rw[Ly hi];exact congrArg some this.symm
omit hE in
theorem Qf.cat{as:Eb}{m S M:Nat}(h1:Qf as n S)(h2:Qf bs m M):Qf (as++bs) (n+m) (bt n S M):=by
 refine⟨by rw[Lm,h1.len,h2.len],λb hb=>?_,?_,λi hi=>?_⟩
 .rcases LJ.1 hb with hb|hb
  .exact h1.byte b hb
  .exact h2.byte b hb
 .rw[dO,show 8*(n+m)=8*n+8*m from I,Nat.pow_add];have h3:M+1<=2 ^ (8*m):=h2.lt;have h4:=mul_le_mul_left (2 ^ (8*n)) h3;have h5:=h1.lt;rw[Nat.mul_add,Ak,Nat.mul_comm _ M]at h4;omega
 .rw[XH h1.lt];by_cases hn:i<n
  .rw[Y hn,Ao (by rw[h1.len];exact hn)];exact h1.at_ i hn
  .rw[O hn,Aj (by rw[h1.len];omega),h1.len];exact h2.at_ _ I
omit hE in
theorem Qf.get{N:Nat}(h:Qf bs n N)(i:Nat):(unp n N).get i=(M.ofList (bs.map u8)).get i:=by
 rw[Yh,M.qy,Lw];by_cases hi:i<n
 .rw[Y hi,h.at_ i hi];rfl
 .rw[O hi,Au (by rw[h.len];omega)];rfl
omit hE in
theorem Qf.ok:Jb Zh (bs.map u8)=true:=by
 rw[Z9,Ad];intro v hv;obtain⟨b,_,rfl⟩:=Lv.1 hv;rfl
omit hE in
theorem vP{q:Sl}(h:pvS H q=some p):p.1=q.len/\∃bs,Qf bs q.len p.2/\H.yl q.b q.off q.len=some (bs.map u8):=by
 unfold pvS at h;obtain⟨b,hb,h⟩:=D h
 cases hp:pz b with
 | none=>
  rw[hp,zn]at h;obtain⟨l,hl,h⟩:=D h;obtain⟨bs,hbs,h⟩:=D h;cases h;obtain⟨e1,e2⟩:=mU hbs;subst e1
  have hlen:bs.length=q.len:=by
   unfold Heap.yl at hl;obtain⟨r,hr,hl⟩:=D hl;have:=(M.jZ _ _ _ _ hl).1;rwa[Ls]at this
  have:=Qf.XO e2;rw[hlen]at this
  exact⟨rfl,bs,this,hl⟩
 | some k=>
  rw[hp,ze]at h;obtain⟨hle,h⟩:=zh h;cases h;rw[zK,Lk]at hle;have hle:q.off+q.len<=k.n:=hle;have hbk:b = .pack k.t k.n k.N:=by cases b<;>cases hp;rfl
  subst hbk;have hrow:H.row q.b=some ⟨k.t,k.n,unp k.n k.N⟩:=by unfold Heap.row;rw[hb];rfl
  obtain⟨l,hl⟩:=mB q.len (unp k.n k.N) q.off λi hi=>⟨_,by rw[Yh,Y I]⟩
  obtain⟨l1,l2⟩:=M.jZ _ _ _ _ hl;refine⟨rfl,unpL q.len (Xg k.N q.off q.len),⟨unpL_length _ _,unpL_lt _ _,sub_lt _ _ _,λi hi=>unpL_get hi⟩,?_⟩;unfold Heap.yl;rw[hrow,qJ,hl];congr 1;refine AF λi=>?_;rw[Lw];by_cases hi:i<q.len
  .rw[<- l2 i hi,Yh,Y I,unpL_get hi,Kv hi];rfl
  .rw[Au I,Au (by rw[unpL_length];omega)];rfl
omit hE in
theorem zfM(h:pv H x=some p)(hx:WF β x):∃bs,Qf bs p.1 p.2/\Zk H 1 x=some (p.1,bs.map u8):=by
 unfold pv at h;unfold Zk
 cases h1:yp x with
 | some q=>
  rw[h1,ze]at h;rw[ze];obtain⟨e1,bs,e2,e3⟩:=vP h;rw[e1];refine⟨bs,e2,?_⟩;rw[show Nat.mul q.len 1=q.len from Ak _,e3]
  rfl
 | none=>
  rw[h1,zn,zo]at h;rw[zn];split at h
  .rename_i h2;obtain rfl:=jO h2;cases h;exact⟨[],⟨rfl,Oc,C,λi hi=>I⟩,rfl⟩
  .obtain⟨s,hs,h⟩:=D h;cases h;obtain rfl:=qU hs;have hw:∀b∈s,b<256:=hx;refine⟨s,by rw[jV];exact Qf.XO hw,?_⟩;show some (je s 0,mapA u8 s)=_;rw[jI]
theorem zds{i:TypeInfo}(h1:i.size=1)(h2:i.bytes=1)(h:pvN E e x=some p):∃bs,Qf bs p.1 p.2/\Hp E e i x=some (p.1,bs.map u8):=by
 unfold pvN at h;obtain⟨q,hq,h⟩:=D h;obtain⟨u,h⟩:=zh h;obtain⟨n,hn,h⟩:=jq h;obtain⟨f,h⟩:=zh h;obtain⟨z,g,h⟩:=D h;obtain⟨hv,h⟩:=zh h;cases h;have d:=zV _ _ hv;subst d
 have a:∀n,Jg (zU (u8 0)) n=(List.replicate n 0).map u8:=by
  intro n
  induction n with
  | zero=>rfl
  | succ n ih=>
   have e:Jg (zU (u8 0)) (n+1)=zX (zU (u8 0)) (Jg (zU (u8 0)) n):=rfl;rw[e,zZ,ih,List.replicate_succ,Aw];rfl
 have hb:∀b∈List.replicate n 0,b<256:=by
  intro b hb;rw[(List.mem_replicate.1 hb).2];decide
 refine⟨List.replicate n 0,⟨length_replicate,hb,Nat.pow_pos C,λi hi=>?_⟩,?_⟩
 .have hi:i<n:=hi;rw[List.getElem?_replicate,Y hi,km,Nat.zero_div]
 .unfold Hp;rw[hq,qJ,u,qX,hn];show ifB (roomy n i.bytes) _ none=_;rw[h2,f,qX,g,qJ,h1,<- a];rfl
omit hE in
theorem V4{H2:Heap}{N:Nat}(h:Uk H2 e n N=some (v,H'))(hb:Qf bs n N) :
  ∃b b',Ja H2 e n (bs.map u8)=some (v,⟨M.set H2.blk H2.next b,H2.next+1⟩)/\H'=⟨M.set H2.blk H2.next b',H2.next+1⟩/\∀(P:Ef) (β:Inj) x w,zO P β b x w->zO P β b' x w:=by
 unfold Uk at h;simp only[qg]at h;cases h;refine⟨.cells e n (M.ofList (bs.map u8)),.pack e n N,?_,rfl,λP β x w hr=>lU hb.get hr⟩;unfold Ja;rw[Qf.ok,qX,qg];show some (G.slice H2.next 0 n n false,Heap.new ⟨H2.blk,H2.next⟩ e (bs.map u8))=_;unfold Heap.new;rw[jV,Ls,hb.len]
theorem FO{i:TypeInfo}(h1:i.size=1)(h2:i.bytes=1)(hz:yI E e 1=true){s:G}(hs:WF β s)(hp:Qf bs p.1 p.2)(h:vV H e s p=some (v,H')) :
  ∃H0,bF E H e i s p.1 (bs.map u8)=some (v,H0)/\pO β H H0 H':=by
 unfold vV at h;unfold bF
 cases hq:yp s with
 | none=>
  rw[hq,zn]at h;obtain⟨hn,h⟩:=zh h;obtain⟨m,hm,h⟩:=YO h;obtain⟨Q,h⟩:=zh h;obtain⟨b,b',T,k2,k3⟩:=V4 h hp;refine⟨⟨M.set H.blk H.next b,H.next+1⟩,?_,.inr ⟨H.blk,H.next,b,b',_,rfl,k2,k3,.inl (Lh _)⟩⟩;rw[zn,hn,qX];have e1:∀f:Nat->R,jY p.1 (some (G.nilslice,H)) f=f m:=λf=>by rw[hm];rfl
  rw[e1,h1,h2,hz,Q]
  exact T
 | some q=>
  rw[hq,ze,zo]at h;rw[ze,zo];have d:=h;clear h;obtain rfl:=kc hq;split at d
  .rename_i hc;rw[Y hc];unfold My at d;obtain⟨b,hb,d⟩:=D d;obtain⟨k,hk,d⟩:=D d;rw[qg]at d;obtain⟨hc2,d⟩:=zh d;simp only[qg]at d;cases d;have hbk:b = .pack k.t k.n k.N:=by cases b<;>cases hk;rfl
   subst hbk;rw[zl,Le,zK,zK,Lk,Lk]at hc2;obtain⟨h60,hle⟩:=hc2;have hle:q.off+q.len+p.1<=k.n:=hle;have hrow:H.row q.b=some ⟨k.t,k.n,unp k.n k.N⟩:=by unfold Heap.row;rw[hb];rfl
   refine⟨H.put q.b ⟨k.t,k.n,unp k.n k.N⟩ (M.nC (bs.map u8) (unp k.n k.N) (q.off+q.len)),?_,.inr ⟨H.blk,q.b,_,_,H.next,rfl,rfl,λP β x w hr=>lU (λj=>?_) hr,.inr ⟨h60,hs.1⟩⟩⟩
   .unfold Rq Heap.Jz;rw[h1,hrow,qJ];have e1:Nat.add q.off (Nat.mul q.len 1)=q.off+q.len:=by show q.off+q.len*1=_;rw[Ak]
    have e2:L (Nat.ble 100 q.b) (L (Nat.ble (Nat.add (q.off+q.len) (je (bs.map u8) 0)) k.n) (Jb Zh (bs.map u8)))=true:=by
     rw[Qf.ok,jV,Ls,hp.len,zl,zl,zK,zK,Lx h60];simp only[Bool.and_true,Bool.true_and,Lk];exact hle
    rw[e1,e2,qX,qJ];rfl
   .rw[Yh,M.fZ,Ls,hp.len,Yh];have hS:Xg k.N 0 (q.off+q.len)<2 ^ (8*(q.off+q.len)):=sub_lt _ _ _;by_cases hj:j<k.n
    .rw[Y hj];have ec:byteOf (bt (Nat.add q.off q.len) (Xg k.N 0 (Nat.add q.off q.len)) (bt p.1 p.2 (Nat.shiftRight k.N (Nat.mul 8 (Nat.add (Nat.add q.off q.len) p.1))))) j=if j<q.off+q.len then byteOf (Xg k.N 0 (q.off+q.len)) j else byteOf (bt p.1 p.2 (Nat.shiftRight k.N (8*(q.off+q.len+p.1)))) (j-(q.off+q.len)):=XH hS
     rw[ec];by_cases ho:j<q.off+q.len
     .rw[Y ho,O I,Y hj,Kv ho,Lz]
     .rw[O ho,XH hp.lt];by_cases hm2:j-(q.off+q.len)<p.1
      .rw[Y hm2,Y I,Lw,hp.at_ _ hm2];rfl
      .rw[O hm2,O I,Y hj,Kw];congr 4;omega
    .rw[O hj,O I,O hj]
  .rename_i hc;rw[O hc];obtain⟨Q,d⟩:=zh d;obtain⟨a,ha,d⟩:=D d;rw[qg]at d;obtain⟨_,as,ha1,u⟩:=vP ha;have z:=ha1.cat hp;rw[h1,h2,hz,Q];show ∃H0,Z8 H e 1 q p.1 (bs.map u8)=some (v,H0)/\_;unfold Heap.yl at u;obtain⟨r,hr,u⟩:=D u;unfold Z8;rw[hr,qJ,show Nat.mul q.len 1=q.len from Ak _,u,qJ,zZ,<- Az];rw[zo]at d ⊢;split at d
   .rename_i hx;rw[Y hx];obtain⟨b,b',T,k2,k3⟩:=V4 d z;exact⟨_,T,.inr ⟨H.blk,H.next,b,b',_,rfl,k2,k3,.inl (Lh _)⟩⟩
   .rename_i hx;rw[O hx];rw[hr,qJ]at d;obtain⟨g,d⟩:=zh d;obtain⟨b,b',T,k2,k3⟩:=V4 d z;refine⟨_,?_,.inr ⟨H.blk.del q.b,H.next,b,b',_,rfl,k2,k3,.inl (Lh _)⟩⟩
    have e3:L (Nat.ble 100 q.b) (L (Nat.beq r.t e) (L (Nat.beq (Nat.mod q.off 1) 0) (Nat.beq (Nat.add q.off (Nat.mul q.cap 1)) r.n)))=true:=by
     simp only[zl,Le]at g ⊢;refine⟨g.1,g.2.1,?_,?_⟩
     .rw[zA,Ll];exact mod_one _
     .rw[show Nat.mul q.cap 1=q.cap from Ak _];exact g.2.2
    rw[e3,qX];exact T
theorem iK(hR:Rel E.P β H w){z:Eg}{s:G}(h:nT E H T z s x=some (v,H'))(hs:WF β s)(hx:WF β x)(ty:Eg) :
  Sim E.P β H w (Builtin.append_ #[T,z] ty #[J β s,J β x]) v H':=by
 obtain⟨d,hd,h⟩:=D h;obtain⟨e,he,h⟩:=D h;obtain⟨Q,g,h⟩:=D h;obtain⟨i,hi,h⟩:=D h;obtain⟨ed,hed,h⟩:=D h;obtain⟨k,hk,h⟩:=D h;obtain⟨hc,h⟩:=zh h;simp only[zl,Le,zA,Ll]at hc;obtain⟨_,h1,h2,hz⟩:=hc;obtain⟨p,hp,h⟩:=D h
 have a:∃bs,Qf bs p.1 p.2/\ifB (isInt Q) (Hp E e i x) (Zk H i.size x)=some (p.1,bs.map u8):=by
  rw[zo]at hp ⊢;split at hp
  .rename_i f;rw[Y f];exact zds hE h1 h2 hp
  .rename_i f;rw[O f,h1];exact zfM hp hx
 obtain⟨bs,hb,a⟩:=a;obtain⟨H0,h0,u⟩:=FO hE h1 h2 hz hs hb h;refine(XT hE hR (v:=v) (H':=H0) ?_ hs hx ty).BJ hR.base u;unfold bI;rw[hd,qJ,he,qJ,g,qJ,hi,qJ,a,qJ]
 have e4:Nat.beq (je (bs.map u8) 0) (Nat.mul p.1 i.size)=true:=by
  rw[jV,Ls,hb.len,h1,zA,Ll];exact(Ak _).symm
 rw[e4,qX];exact h0
end
end
noncomputable section
variable[Unk]
def u8s(s:Ee):List G:=mapA u8 (zG s)
def u8s_conc(β:Inj)(s:Ee):K β (u8s s)=s.data.toList.map λb=>Value.int .u8 b.toNat:=by
 have h:=aq (zG s) (ZF s) β;rw[Qs]at h;have:=congrArg Array.toList h;simpa[u8s] using this.symm
def u8s_length(s:Ee):(u8s s).length=s.size:=by
 have:=congrArg List.length (u8s_conc (λ_=>none) s);rw[zC,Ls,Ls]at this;exact this
def u8s_ok(s:Ee):∀v∈u8s s,Zh v=true:=by
 intro v hv;simp only[u8s,jI,Lv]at hv;obtain⟨b,_,rfl⟩:=hv;rfl
def u8s_get(β:Inj)(s:Ee)(j:Nat):(K β (u8s s))[j]?=(s.data[j]?).map λb=>Value.int .u8 b.toNat:=by
 rw[u8s_conc,Lw,LV]
def u8s_append(s t:Ee):u8s (s++t)=u8s s++u8s t:=by
 simp[u8s,zG]
def Fi(hR:Rel P β H w)(h:H.blk.get b=some (.text t v))(hb:(β b).isSome){s:Ee}(hs:J β v = .string s) :
  (loadCells (β.addr b 0) s.size).run P w = .ok (K β (u8s s)).toArray w:=by
 obtain⟨arr,fz,h1,h2⟩:=hR.vl h hb
 have:=run_loadCells_list (P:=P) (w:=w) (β.addr b 0) (K β (u8s s)) (by
  intro j x hj;rw[u8s_get]at hj
  cases hd:s.data[j]? with
  | none=>rw[hd]at hj;cases hj
  | some c=>
   rw[hd]at hj;cases hj;have h3:=h2.cell j c (by rw[hs];exact hd);rw[Inj.jS,Inj.addr,cell_of h1,Lz]
   exact h3)
 rw[zC,Ls,u8s_length,<- zC]at this;exact this
def cP:∀ {cs:List G}{l:Eb},QY cs=some l->cs=l.map (λn=>.int .u8 (.ofNat n))/\∀b∈l,b<256
 | [],l,h=>by
  have h:some ([]:List Nat)=some l:=h
  cases h;exact⟨rfl,Oc⟩
 | v::cs,l,h=>by
  have h:(bnd (UT v) λb=>bnd (QY cs) λm=>some (b::m))=some l:=(YA UT v cs).symm.trans h;obtain⟨b,hb,h⟩:=D h;obtain⟨m,hm,h⟩:=D h;cases h;obtain⟨p,hp,hb⟩:=D hb;obtain rfl:=jx hp;obtain⟨a,hb⟩:=zh hb;obtain⟨n,hn,hb⟩:=jq hb;obtain⟨hl,hb⟩:=zh hb;cases hb;rw[zW,Lk]at hl;obtain⟨e1,e2⟩:=cP hm;refine⟨by rw[Aw,Vk a,hn,e1],λx hx=>?_⟩;rcases Lf.1 hx with rfl|hx
  .exact hl
  .exact e2 x hx
def cC(h:UF v=true):v = .str []:=by
 have h:Z (js v) false (λs=>lC s true λ_ _=>false)=true:=h
 cases hv:js v with
 | none=>rw[hv]at h;cases h
 | some s=>
  rw[hv,ze]at h
  cases s with
  | nil=>exact qU hv
  | cons a l=>cases h
def Sy:str [] = .empty:=rfl
def empty_append(s:Ee):ByteArray.empty++s=s:=by simp
def Ms{q:Sl}{l:Eb}(h:pkL H q=some l):(∀b∈l,b<256)/\l.length=q.len/\H.yl q.b q.off q.len=some (l.map u8):=by
 unfold pkL at h;obtain⟨b,hb,h⟩:=D h;obtain⟨k,a,h⟩:=D h;obtain⟨hle,h⟩:=zh h;rw[qg]at h;cases h
 have hp:pvS H q=some (q.len,Xg k.N q.off q.len):=by
  unfold pvS;rw[hb,qJ,a,ze,hle,qX]
 obtain⟨_,bs,h1,h2⟩:=vP hp
 have:bs=unpL q.len (Xg k.N q.off q.len):=by
  refine AF λi=>?_;by_cases hi:i<q.len
  .rw[h1.at_ i hi,unpL_get hi]
  .rw[Au (by rw[h1.len];omega),Au (by rw[unpL_length];omega)]
 rw[this]at h2;exact⟨unpL_lt _ _,unpL_length _ _,h2⟩
def lz{E:Env}(hF:zJ E β){s:Sl}
  (h:(Z (pkL H s) (ifB (Nat.beq s.len 0) (some (.str [])) (bnd (H.yl s.b s.off s.len) λcs=>Z (QY cs) (findF (CG cs) E.facts) λl=>some (.str l))) λl=>some (.str l))=some v) :
  (s.len=0/\v = .str [])\/∃cs,H.yl s.b s.off s.len=some cs/\∃u,WF β v/\J β v = .string u/\K β cs=u.data.toList.map λb=>Value.int .u8 b.toNat:=by
 cases hq:pkL H s with
 | some l=>
  rw[hq,ze]at h;cases h;obtain⟨e1,_,m⟩:=Ms hq;refine .inr ⟨_,m,str l,e1,rfl,?_⟩;have:=congrArg Array.toList (aq l e1 β);rw[Array.toList_map]at this
  rw[this,jI]
 | none=>
  rw[hq,zn,zo]at h;split at h
  .rename_i a;rw[zA,Ll]at a;cases h;exact .inl ⟨a,rfl⟩
  .obtain⟨cs,hl,h⟩:=D h;refine .inr ⟨cs,hl,?_⟩
   cases hb:QY cs with
   | some l=>
    rw[hb,ze]at h;cases h;obtain⟨e1,e2⟩:=cP hb;refine⟨str l,e2,rfl,?_⟩;have:=aq l e2 β;have:=congrArg Array.toList this;rw[Array.toList_map]at this;rw[this,e1,jI]
    rfl
   | none=>
    rw[hb,zn]at h;obtain⟨f,d,e⟩:=qD h;obtain rfl:=No e;obtain⟨g1,k,u,i,g⟩:=hF _ d;exact⟨u,k,i,g⟩
section
variable{E:Env}(hE:yF E)
include hE
theorem Xe(hF:zJ E β)(hR:Rel E.P β H w)(h:Xf E H x=some v)(hx:WF β x) :
  WF β v/\∃s,J β v = .string s/\(Builtin.lenOf (J β x)).run E.P w = .ok s.size w/\∀w',Alike w w'->(Builtin.firstCells 1 s.size (J β x)).run E.P w' = .ok (K β (u8s s)).toArray w':=by
 have _:=hE;unfold Xf at h
 cases h1:Q2 x with
 | some p=>
  rw[h1,ze]at h;obtain rfl:=JX h1;replace h:=D h;obtain⟨b,hb,h⟩:=h;replace h:=D h;obtain⟨q,hq,h⟩:=h;obtain rfl:=Vt hq;replace h:=zh h;obtain⟨hv,h⟩:=h;cases h;have hv:=zV _ _ hv;obtain⟨n,m,s,d,T⟩:=hx;refine⟨m,s,d,by simp[Builtin.lenOf,J,d,sOf],λw' a=>?_⟩;have:=Fi (hR.alike a) hb n (by rw[hv];exact d)
  simp[Builtin.firstCells,J,this]
 | none=>
  rw[h1,zn]at h
  cases h2:yp x with
  | some s=>
   rw[h2,ze]at h;obtain rfl:=kc h2;rcases lz hF h with⟨l,rfl⟩|⟨cs,hl,key⟩
   .refine⟨by simp[WF],.empty,rfl,by simp[Builtin.lenOf,J,l],λw' _=>?_⟩;have:(K β (u8s ByteArray.empty)).toArray = #[]:=rfl;rw[this];simp[Builtin.firstCells,J,loadCells,loadCellsFrom]
   .obtain⟨u,g,k2,k3⟩:=key;obtain⟨g1,Q,z⟩:=hR.yl hl hx.1
    have hlen:u.size=s.len:=by
     have:=congrArg List.length k3;rw[zC,Ls,Ls,g1]at this;exact this.symm
    refine⟨g,u,k2,by simp[Builtin.lenOf,J,hlen],λw' a=>?_⟩;have:=((hR.alike a).yl hl hx.1).2.2;rw[u8s_conc,<- k3]
    simp[Builtin.firstCells,J,hlen,this]
  | none=>
   rw[h2,zn,zo]at h;split at h
   .rename_i h3;obtain rfl:=jO h3;cases h;refine⟨by simp[WF],.empty,rfl,by simp[Builtin.lenOf,J],λw' _=>?_⟩;have:(K β (u8s ByteArray.empty)).toArray = #[]:=rfl;rw[this];simp[Builtin.firstCells,J]
   .have key:v=x/\∃s,J β x = .string s:=by
     rw[zo]at h;split at h
     .replace h:=D h;obtain⟨r,i,h⟩:=h;cases h;obtain⟨f,k,e⟩:=qD i;obtain rfl:=Vd e;obtain⟨_,_,s,e1,_⟩:=hF _ k;exact⟨rfl,s,e1⟩
     .replace h:=D h;obtain⟨s,hs,h⟩:=h;cases h;have:=qU hs;exact⟨rfl,str s,by rw[this];rfl⟩
    obtain⟨rfl,s,hs⟩:=key;refine⟨hx,s,hs,by simp[Builtin.lenOf,hs],λw' _=>?_⟩;have e:s.extract 0 s.size=s:=by simp
    rw[u8s_conc];simp only[Builtin.firstCells,hs,e,Ln];congr 1;apply Array.toList_inj.1;simp
theorem uT{a b:G}{s t:Ee}(h:zu E.P E.tabs β (.bin .add a b c))(ha:J β a = .string s)(hb:J β b = .string t):WF β c/\J β c = .string (s++t):=by
 have _:=hE;obtain⟨_,_,h3,_,e⟩:=h;refine⟨h3,?_⟩
 have d:(Op.stringOp .add s t).run E.P default = .ok (J β c) default:=by
  have:=e 0 default;rw[ha,hb]at this;exact this
 simp only[Op.stringOp]at d;split at d
 .cases d
 .exact(Result.ok.inj d).1.symm
theorem xL(hF:zJ E β){a b:G}{s t:Ee}(h:zbt E a b=some c)(g:WF β a)(d:WF β b)(ha:J β a = .string s)(hb:J β b = .string t):WF β c/\J β c = .string (s++t):=by
 unfold zbt at h;rw[zo]at h;split at h
 .rename_i k;obtain rfl:=cC k;cases h;cases ha;exact⟨d,by rw[hb,Sy,empty_append]⟩
 .have fact:∀ {c:G},findF (fx .add a b) E.facts=some c->WF β c/\J β c = .string (s++t):=by
   intro c h;obtain⟨f,i,e⟩:=qD h;exact uT hE (show zu E.P E.tabs β (.bin .add a b c) from Ve e (hF _ i)) ha hb
  cases h1:js a with
  | none=>rw[h1,zn]at h;exact fact h
  | some l=>
   rw[h1,ze]at h
   cases h2:js b with
   | none=>rw[h2,zn]at h;exact fact h
   | some m=>
    rw[h2,ze]at h;cases h;have e1:=qU h1;have e2:=qU h2;subst e1 e2;cases ha;cases hb;refine⟨λx hx=>?_,by rw[J,zZ,VS]⟩;rw[zZ]at hx;rcases LJ.1 hx with hx|hx
    .exact g x hx
    .exact d x hx
theorem bT(hF:zJ E β){s:Ee}(h:rP E v=true)(hv:J β v = .string s):0<s.size:=by
 have _:=hE;unfold rP at h
 cases h1:js v with
 | some l=>
  rw[h1,ze]at h;obtain rfl:=qU h1;cases hv
  cases l with
  | nil=>cases h
  | cons a l=>rw[qA];exact succ_pos _
 | none=>
  rw[h1,zn]at h
  cases h2:findF (mEq 2 v (.str [])) E.facts with
  | none=>rw[h2]at h;cases h
  | some r=>
   rw[h2,ze,qW]at h;obtain⟨f,k,e⟩:=qD h2;obtain rfl:=wK e;obtain⟨_,_,h3⟩:=hF _ k;rcases h3 with⟨h3,_⟩|⟨_,s',n,e1,e2,m⟩|⟨h3,_⟩
   .cases h3
   rotate_left
   .cases h3
   .rw[hv]at e1;cases e1;cases e2;subst m;have g:s≠str []:=by simpa using h
    rcases eq_zero_or_pos s.size with i|i
    .exfalso;apply g;obtain⟨⟨d⟩⟩:=s;have:d.length=0:=i;rw[length_eq_zero_iff]at this;subst this;rfl
    .exact i
theorem nF(hF:zJ E β){s:Ee}(h:nG E v=true)(hv:J β v = .string s):s.size<=1000000000:=by
 have _:=hE;unfold nG at h
 cases h1:js v with
 | some l=>
  rw[h1,ze,zK,Lk,jV]at h;obtain rfl:=qU h1;cases hv
  rw[qA];exact h
 | none=>
  rw[h1,zn]at h
  cases h2:findF (iN v) E.facts with
  | none=>rw[h2]at h;cases h
  | some l=>
   rw[h2,ze]at h;obtain⟨f,d,e⟩:=qD h2;obtain rfl:=Vd e;obtain⟨_,_,s',e1,e2⟩:=hF _ d;rw[hv]at e1;cases e1
   cases h3:asInt l with
   | some p=>
    rw[h3,ze,qW,Zi]at h;obtain rfl:=jx h3;simp only[J]at e2;injection e2 with _ e2;have h:¬((Int.ofNat 1000000000)<p.2):=by simpa using h
    rw[e2]at h;have h:¬((1000000000:Int)<(s.size:Int)):=h
    omega
   | none=>
    rw[h3,zn]at h
    cases i:findF (fx .gtr l (.int .i64 (.ofNat 1000000000))) E.facts with
    | none=>rw[i]at h;cases h
    | some r=>
     rw[i,ze]at h;obtain⟨f,d,e⟩:=qD i;obtain⟨_,_,_,_,a⟩:=Ve e (hF _ d);have a:=a 0 default;rw[e2]at a
     cases g:asBool r with
     | none=>rw[g]at h;cases h
     | some b=>
      rw[g,ze,qW]at h;obtain rfl:=QF g;have a:(Go.binOp .gtr 0 (.int .i64 (s.size:Nat)) (.int .i64 1000000000)).run E.P default = .ok (.bool b) default:=a;simp[Go.binOp,Op.intCmp]at a;have hb:b=false:=by simpa using h
      rw[hb]at a;have a:=of_decide_eq_false a;omega
theorem Rel.newText(hR:Rel P β H w){s:Ee}(d:WF β c)(hc:J β c = .string s)(f:qS P e=1)(fz:Nat×Nat)
  (hf:∀i,i<s.size+extra.length->¬(fz.1<=i/\i<fz.2)) :
  Rel P (β.put H.next (w.heap.size,0,s.size+extra.length)) ⟨H.blk.set H.next (.text e c),H.next+1⟩ (push w (.cells (K β (u8s s)++extra).toArray e fz)) /\
  Ext β H w (β.put H.next (w.heap.size,0,s.size+extra.length)) ⟨H.blk.set H.next (.text e c),H.next+1⟩ (push w (.cells (K β (u8s s)++extra).toArray e fz)):=by
 have _:=hE;have hl:(K β (u8s s)).length=s.size:=by rw[zC,Ls,u8s_length]
 refine hR.add _ _ _ ⟨_,fz,yN _ _,Qa.mono ⟨d,⟨s,hc,Al _ _⟩,?_,?_,?_,f⟩ (Inj.yL (hR.fresh (Lh _)))⟩
 .simp[hl]
 .intro i b hb;rw[hc]at hb;have a:=(LO.1 hb).1;have a:i<s.size:=a;rw[Lz,AB,Ao (by rw[hl];exact a),u8s_get];have hb:s.data[i]?=some b:=hb;rw[hb];rfl
 .intro i hi;exact hf i (by simpa[hl] using hi)
theorem dh{s:Ee}{x:Ej}(a:WF β c)(hc:J β c = .string s)(f:β H.next=none)(hx:s.size<=x.2.2) :
  WF (β.put H.next x) (.osl H.next c)/\J (β.put H.next x) (.osl H.next c) = .slice (some ⟨x.1,x.2.1,none⟩) s.size x.2.2:=by
 have _:=hE;obtain⟨g,d⟩:=WF.mono (Inj.yL (x:=x) f) _ a;have e:(β.put H.next x) H.next=some x:=Inj.zS _ _ _;refine⟨⟨by rw[e];rfl,g,s,by rw[d];exact hc,by simp[Inj.ext,e];exact hx⟩,?_⟩;simp only[J,d,hc,sOf];simp[Inj.addr,Inj.blk,Inj.sh,Inj.ext,e]
theorem Hn{d:Heap}(a:Rel E.P β d w)(m:Ext β H w β d w)(hn:d.next=H.next){r:Eg}{p:Es}{i:TypeInfo}{base:Ed}{s t:Ee}
  (hs:E.desc T=some (.slice e)) (hxd:E.desc r=some p) (hni:isInt p=false) (hi:E.types.get e=some i) (hi1:i.size=1) (hb1:i.bytes=1) (g:yI E e 1=true) (hts:qS E.P e=1)
  (hlen:(Builtin.lenOf (J β x)).run E.P w = .ok t.size w) (hnew:∀w',Alike w w'->(Builtin.firstCells 1 t.size (J β x)).run E.P w' = .ok (K β (u8s t)).toArray w')
  (hold:∀w',Alike w w'->(Builtin.firstCells 1 s.size (.slice base s.size sCap)).run E.P w' = .ok (K β (u8s s)).toArray w')
  (hwc:WF β c) (hc:J β c = .string (s++t)) (hroom:(s++t).size<=1000000000) (hcap:sCap<s.size+t.size) (ty:Eg) :
  Sim E.P β H w (Builtin.append_ #[T,r] ty #[.slice base s.size sCap,J β x]) (.osl H.next c) ⟨d.blk.set H.next (.text e c),H.next+1⟩:=by
 have l:(s++t).size=s.size+t.size:=by simp
 obtain⟨z,g,f⟩:=J5 hE g
 obtain⟨k,extra,k1,k2⟩:=run_append_grow hE (sLen:=s.size) (sCap:=sCap) (base:=base) (old:=u8s s) (new:=u8s t) (n:=t.size) (β:=β) (w:=w) (x:=x) hs hxd hi g (by rw[hi1];exact f)
  (by rw[hb1];omega) I (Or.inl ⟨hni,hlen,by rw[hi1];exact hnew⟩) (by rw[hi1];exact hold) hcap ty
 have hA:=ZC w;rw[hi1,Ak]at k1;obtain⟨Q,u⟩:=(a.alike hA).newText hE (e:=e) (extra:=extra) hwc hc hts (0,0) Oc;have hf:β d.next=none:=a.fresh (Lh _);obtain⟨o1,o2⟩:=dh hE (H:=d) (x:=(w.heap.size,0,(s++t).size+extra.length)) hwc hc hf (Al _ _);rw[hn]at Q u o1 o2;refine⟨β.put H.next (w.heap.size,0,(s++t).size+extra.length),_,?_,o1,Q,(m.trans (Ext.alike a.bnd hA)).trans u⟩;rw[k2,o2,l,k1,u8s_append]
theorem Dy(hR:Rel E.P β H w){l:Eg}{k:Es}{i:TypeInfo}{id:Nat}{Q:X}{y:Ej}{arr:Eh}{fz:Nat×Nat}{s t:Ee}
  (hs:E.desc T=some (.slice e)) (hxd:E.desc l=some k) (hni:isInt k=false) (hi:E.types.get e=some i) (hi1:i.size=1) (hts:qS E.P e=1)
  (hlen:(Builtin.lenOf (J β x)).run E.P w = .ok t.size w) (hnew:∀w',Alike w w'->(Builtin.firstCells 1 t.size (J β x)).run E.P w' = .ok (K β (u8s t)).toArray w')
  (h60:100<=id) (hb:H.blk.get id=some Q) (hy:β id=some y) (harr:w.heap[y.1]?=some (.cells arr e fz)) (hthaw:∀i,i<arr.size->¬(fz.1<=i/\i<fz.2)) (hsize:y.2.1+sCap<=arr.size)
  (hcell:∀j (b:UInt8),s.data[j]?=some b->arr[y.2.1+j]?=some (.int .u8 b.toNat))
  (hwc:WF β c) (hc:J β c = .string (s++t)) (hge:s.size+t.size<=sCap) (ty:Eg) :
  Sim E.P β H w (Builtin.append_ #[T,l] ty #[.slice (some ⟨y.1,y.2.1,none⟩) s.size sCap,J β x]) (.osl H.next c) ⟨(H.blk.del id).set H.next (.text e c),H.next+1⟩:=by
 have d:(s++t).size=s.size+t.size:=by simp
 have f:(K β (u8s t)).length=t.size:=by rw[zC,Ls,u8s_length]
 obtain⟨w',a,s1,s2,s3,s4,s5⟩:=VU (P:=E.P) y.1 (y.2.1+s.size) e fz (K β (u8s t)) 0 w arr harr hthaw
  (by rw[f];omega) (by
   intro u m;rw[zC]at m;obtain⟨v,hv,rfl⟩:=Lv.1 m
   exact aP (u8s_ok t v hv))
 have n:β H.next=none:=hR.fresh (Lh _)
 have g:∀j (b:UInt8),(sOf (J β c)).data[j]?=some b->a[y.2.1+j]?=some (.int .u8 b.toNat):=by
  intro j b hb;rw[hc]at hb;have hb:(s++t).data[j]?=some b:=hb;rw[s5,f];have hd:(s++t).data=s.data++t.data:=by simp
  rw[hd,Array.getElem?_append]at hb;have z:s.data.size=s.size:=rfl;split at hb
  .rename_i hj;rw[O I];exact hcell j b hb
  .rename_i hj;have h2:=(LO.1 hb).1;have h2:j-s.data.size<t.size:=h2;rw[Y I,u8s_get,show y.2.1+j-(y.2.1+s.size+0)=j-s.data.size from I,hb];rfl
 obtain⟨r,p⟩:=hR.rename (b':=.text e c) (y:=(y.1,y.2.1,sCap)) h60 hb hy rfl s3 ⟨a,fz,s2,Qa.mono ⟨hwc,⟨s++t,hc,by rw[d];exact hge⟩,by rw[s4];exact hsize,g,by rw[s4];exact hthaw,hts⟩ (Inj.yL n)⟩
 .obtain⟨o1,o2⟩:=dh hE (H:=H) (x:=(y.1,y.2.1,sCap)) hwc hc n (by rw[d];exact hge);refine⟨β.put H.next (y.1,y.2.1,sCap),w',?_,o1,r,p⟩;rw[o2,d]
  have e1:(⟨y.1,y.2.1,none⟩:Addr).add (s.size*i.size)=⟨y.1,y.2.1+s.size,none⟩:=by
   rw[hi1,Ak];unfold Addr.add;by_cases h:s.size=0<;>simp[h]
  exact Zn hE (w':=w') (base:=some ⟨y.1,y.2.1,none⟩) (new:=u8s t) hs hxd hi (Or.inl ⟨hni,hlen,by rw[hi1];exact hnew⟩) (by show(storeCells _ _).run _ _=_;rw[e1];exact s1) hge ty
theorem Bc{β : Inj}(hF : zJ E β){H H' : Heap}{w : World}(hR : Rel E.P β H w){sT xT e : TypeId}{xd : TypeDesc}{s x v : G}(hd : E.desc sT = some (.slice e))(hxd : E.desc xT = some xd)(hni : isInt xd = false)
    (h : zeF E H e s x = some (v, H')) (hs : WF β s) (hx : WF β x) (ty : TypeId) :
    Sim E.P β H w (Builtin.append_ #[sT, xT] ty #[J β s, J β x]) v H' := by
  replace h := D h;obtain⟨ed, _, h⟩ := h;replace h := D h;obtain⟨k, _, h⟩ := h;replace h := D h;obtain⟨i, hi, h⟩ := h;replace h := zh h;obtain⟨hu, h⟩ := h;simp only[zl, Le, zA, Ll] at hu;obtain⟨_, z, hb1, hz⟩ := hu
  have hts : qS E.P e = 1 := by
    have := (QI hE (show E.size e = some i.size by unfold Env.size; rw[hi]; rfl)).choose_spec.2.2.2;rw[this, z]
  replace h := D h;obtain⟨a, ha, h⟩ := h;replace h := D h;obtain⟨b, hb, h⟩ := h;obtain⟨wa, n, ea, la, fa⟩ := Xe hE hF hR ha hs;obtain⟨wb, T, eb, lb, fb⟩ := Xe hE hF hR hb hx;replace h := D h;obtain⟨H0, d, h⟩ := h
  have empty : ∀base sLen sCap, J β s = .slice base sLen sCap -> sLen <= sCap -> UF b = true -> Sim E.P β H w (Builtin.append_ #[sT, xT] ty #[J β s, J β x]) s H := by
    intro base sLen sCap g hle h0;have := cC h0;subst this;have hsb : T = .empty := by cases eb; rfl
    subst hsb;have hmode : dW E β w e i xd x 0 [] := Or.inl ⟨hni, lb, λw' hA => by rw[z]; exact fb w' hA⟩;refine qk.sim ⟨?_, hs⟩ hR;rw[g];exact Zn hE (base := base) hd hxd hi hmode (by cases base <;> simp[K, storeCells]) hle ty
  have rest : ∀ {r : G × Heap}, (ifB (rP E b) (bnd (zbt E a b) λc => ifB (nG E c) (zdt H0 e c) none) none) = some r -> H0.next = H.next ->
      ∃c, r = (.osl H.next c, ⟨H0.blk.set H.next (.text e c), H.next + 1⟩) /\ WF β c /\ J β c = .string (n ++ T) /\ (n ++ T).size <= 1000000000 /\ 0 < T.size := by
    intro r h hn;obtain⟨h1, h⟩ := zh h;obtain⟨c, hc, h⟩ := D h;obtain⟨h2, h⟩ := zh h;cases h;obtain⟨c1, c2⟩ := xL hE hF hc wa wb ea eb;exact⟨c, by rw[<- hn], c1, c2, nF hE hF h2 c2, bT hE hF h1 eb⟩
  have grow : ∀ {base sCap c}, J β s = .slice base n.size sCap -> Rel E.P β H0 w -> Ext β H w β H0 w -> H0.next = H.next -> sCap < n.size + T.size -> WF β c -> J β c = .string (n ++ T) -> (n ++ T).size <= 1000000000 ->
      Sim E.P β H w (Builtin.append_ #[sT, xT] ty #[J β s, J β x]) (.osl H.next c) ⟨H0.blk.set H.next (.text e c), H.next + 1⟩ := by
    intro base sCap c g r1 r2 hn hcap c1 c2 c3;have fa' := fa;rw[g] at fa' ⊢;exact Hn hE r1 r2 hn hd hxd hni hi z hb1 hz hts lb fb fa' c1 c2 c3 hcap ty
  unfold Dd at d
  cases h1 : Q2 s with
  | some p =>
    rw[h1, ze] at d;have := JX h1;subst this;obtain⟨w1, w2, u, hu1, hu2⟩ := hs;replace d := D d;obtain⟨b1, Q, d⟩ := d;replace d := D d;obtain⟨q, hq, d⟩ := d;replace d := zh d;obtain⟨h60, d⟩ := d;rw[zl, Le, zK, Lk, zA, Ll] at h60;cases d;have := Vt hq;subst this
    have hva : a = p.2 /\ q.2 = p.2 := by
      unfold Xf at ha;rw[h1, ze, Q, qJ, show bD (X.text q.1 q.2) = some q from rfl, qJ] at ha;obtain⟨g1, g2⟩ := zh ha;cases g2;exact⟨rfl, zV _ _ g1⟩
    obtain⟨rfl, hva⟩ := hva;have hsa : n = u := by rw[hu1] at ea; cases ea; rfl
    subst hsa;have g : J β (.osl p.1 p.2) = .slice (some (β.addr p.1 0)) n.size (β.ext p.1) := by simp[J, ea, sOf]
    rw[zo] at h;split at h
    · rename_i h0
      cases h;exact empty _ _ _ g hu2 h0
    · obtain⟨c, f, c1, c2, c3, c4⟩ := rest h rfl
      cases f;obtain⟨y, hy⟩ := LM.1 w1;obtain⟨hD1, hD2⟩ := hR.del h60.1 hy;rcases LD (β.ext p.1) (n.size + T.size) with m|hge
      · exact grow g hD1 hD2 rfl m c1 c2 c3
      · obtain⟨arr, fz, a1, a2⟩ := hR.vl Q w1
        have e1 : β.blk p.1 = y.1 := by simp[Inj.blk, hy]
        have e2 : β.sh p.1 = y.2.1 := by simp[Inj.sh, hy]
        have e3 : β.addr p.1 0 = ⟨y.1, y.2.1, none⟩ := by simp[Inj.addr, e1, e2]
        rw[g, e3];refine Dy hE hR hd hxd hni hi z hts lb fb h60.1 Q hy (arr := arr) (fz := fz) (by rw[<- e1, <- h60.2]; exact a1) a2.thaw (by rw[<- e2]; exact a2.size) (λj b hjb => ?_) c1 c2 hge ty;rw[<- e2]
        exact a2.cell j b (by rw[hva, ea]; exact hjb)
  | none =>
    rw[h1, zn] at d
    cases h2 : yp s with
    | none =>
      rw[h2, zn] at d;replace d := zh d;obtain⟨h3, d⟩ := d;cases d;have := jO h3;subst this
      have hsa : n = .empty := by
        have : a = .str [] := by
          have ha : (some (G.str []) : Option G) = some a := ha;cases ha; rfl
        subst this;cases ea; rfl
      subst hsa;rw[zo] at h;split at h
      · rename_i h0
        cases h;exact empty none 0 0 rfl (Lh _) h0
      · obtain⟨c, f, c1, c2, c3, c4⟩ := rest h rfl
        cases f
        exact grow (base := none) (sCap := 0) rfl hR (.refl _ _ _ hR.bnd) rfl I c1 c2 c3
    | some q =>
      rw[h2, ze, zo] at d;have := kc h2;subst this
      have hlq : n.size = q.len := by
        have : (Builtin.lenOf (J β (.slice q.b q.off q.len q.cap q.ex))).run E.P w = .ok q.len w := by simp[Builtin.lenOf, J]
        rw[this] at la;exact(Result.ok.inj la).1.symm
      split at d
      · rename_i hex
        replace d := zh d;obtain⟨h3, d⟩ := d;rw[zA, Ll] at h3;cases d;have g : J β (.slice q.b q.off q.len q.cap q.ex) = .slice (some (β.addr q.b q.off)) n.size q.cap := by simp[J, hex, hlq]
        rw[zo] at h;split at h
        · rename_i h0
          cases h;exact empty _ _ _ g I h0
        · obtain⟨c, f, c1, c2, c3, c4⟩ := rest h rfl
          cases f;exact grow g hR (.refl _ _ _ hR.bnd) rfl I c1 c2 c3
      · rename_i hex
        replace d := D d;obtain⟨r, hr, d⟩ := d;replace d := zh d;obtain⟨h3, d⟩ := d;rw[zl, Le, zl, Le, zl, Le, zK, Lk, zA, Ll, zA, Ll, zA, Ll] at h3;obtain⟨h60, hrt, hoff, hcapn⟩ := h3;cases d
        have g : J β (.slice q.b q.off q.len q.cap q.ex) = .slice (some (β.addr q.b q.off)) n.size (q.cap + β.ext q.b) := by
          simp only[J, hlq];rw[O hex]
        have hle := hs.2;rw[zo] at h;split at h
        · rename_i h0
          cases h;exact empty _ _ _ g I h0
        · obtain⟨c, f, c1, c2, c3, c4⟩ := rest h rfl
          cases f;obtain⟨y, hy⟩ := LM.1 hs.1;obtain⟨hD1, hD2⟩ := hR.del h60 hy;rcases LD (q.cap + β.ext q.b) (n.size + T.size) with m|hge
          · exact grow g hD1 hD2 rfl m c1 c2 c3
          · obtain⟨arr, fz, a1, a2⟩ := hR.rowAt hr hs.1
            have e1 : β.blk q.b = y.1 := by simp[Inj.blk, hy]
            have e2 : β.sh q.b = y.2.1 := by simp[Inj.sh, hy]
            have e3 : β.addr q.b q.off = ⟨y.1, y.2.1, none⟩ := by rw[hoff]; simp[Inj.addr, e1, e2]
            have hsz := a2.size;rw[hrt, hts] at hsz;have hA := fa w (alike_refl w);rw[g, e3] at hA;rw[g, e3];obtain⟨b0, hb0, _⟩ := JG hr;refine Dy hE hR hd hxd hni hi z hts lb fb h60 hb0 hy (arr := arr) (fz := fz) (by rw[<- e1, <- hrt]; exact a1) a2.thaw (by rw[<- e2]; omega) (λj b hjb => ?_) c1 c2 hge ty;have hcells : (loadCells ⟨y.1, y.2.1, none⟩ n.size).run E.P w = .ok (K β (u8s n)).toArray w := by simpa[Builtin.firstCells] using hA
            have hj := (LO.1 hjb).1;have hj : j < n.size := hj;have e1' : w.heap[y.1]?=some (.cells arr e fz) := by rw[<- e1, <- hrt]; exact a1
            have hl := run_loadCells (P := E.P) w ⟨y.1, y.2.1, none⟩ n.size (λk => arr.getD (y.2.1 + k) undef) (λk hk => by
              have : (⟨y.1, y.2.1, none⟩ : Addr).add k = ⟨y.1, y.2.1 + k, none⟩ := by
                unfold Addr.add;by_cases h : k = 0 <;> simp[h]
              rw[this, cell_of e1'];have m : y.2.1 + k < arr.size := by rw[<- e2]; omega
              rw[Av m, getD_eq_getD_getElem?, Av m]
              rfl)
            rw[hcells] at hl;have hl := congrArg Array.toList (Result.ok.inj hl).1;simp only at hl;have hl := congrArg (λl : List Value => l[j]?) hl;simp only[u8s_get, hjb, Ac, Lw, Ah hj] at hl;have m : y.2.1 + j < arr.size := by rw[<- e2]; omega
            rw[Av m];rw[getD_eq_getD_getElem?, Av m] at hl;exact hl.symm
def iQ(s:Ee):List G:=mapA (λb=>.int .i64 (.ofNat b)) (zG s)
omit hE in
theorem my(β:Inj)(s:Ee):K β (iQ s)=s.data.toList.map λb=>Value.int .i64 b.toNat:=by
 rw[zC];unfold iQ zG;rw[jI,jI,LZ,LZ];rfl
omit hE in
theorem cE(s:Ee):(iQ s).length=s.size:=by
 have:=congrArg List.length (my (λ_=>none) s);rw[zC,Ls,Ls]at this;exact this
omit hE in
theorem tO(β:Inj)(s:Ee)(j:Nat):(K β (iQ s))[j]?=(s.data[j]?).map λb=>Value.int .i64 b.toNat:=by
 rw[my,Lw,LV]
omit hE in
theorem mZ{b:X}{q:TypeId×G}(h:pB b=some q):b = .ints q.1 q.2:=by cases b<;>cases h;rfl
omit hE in
theorem Gc(hR:Rel P β H w)(h:H.blk.get b=some (.ints t v))(hb:(β b).isSome){s:Ee}(hs:J β v = .string s) :
  (loadCells (β.addr b 0) s.size).run P w = .ok (K β (iQ s)).toArray w:=by
 obtain⟨y,hy⟩:=LM.1 hb;obtain⟨arr,fz,h1,h2⟩:=hR.blk _ _ _ h hy;have e1:β.blk b=y.1:=by simp[Inj.blk,hy]
 have e2:β.sh b=y.2.1:=by simp[Inj.sh,hy]
 have:=run_loadCells_list (P:=P) (w:=w) (β.addr b 0) (K β (iQ s)) (by
  intro j x hj;rw[tO]at hj
  cases hd:s.data[j]? with
  | none=>rw[hd]at hj;cases hj
  | some c=>
   rw[hd]at hj;cases hj;have h3:=h2.cell j c (by rw[hs];exact hd);rw[Inj.jS,Inj.addr,e1,e2,cell_of h1,Lz]
   exact h3)
 rw[zC,Ls,cE,<- zC]at this;exact this
theorem nH(hF:zJ E β){s:Ee}(h:vK E v=true)(hv:J β v = .string s):s.size<=100000000:=by
 have _:=hE;unfold vK at h
 cases h1:js v with
 | some l=>
  rw[h1,ze,zK,Lk,jV]at h;obtain rfl:=qU h1;cases hv
  rw[qA];exact h
 | none=>
  rw[h1,zn]at h
  cases h2:findF (iN v) E.facts with
  | none=>rw[h2]at h;cases h
  | some l=>
   rw[h2,ze]at h;obtain⟨f,d,e⟩:=qD h2;obtain rfl:=Vd e;obtain⟨_,_,s',e1,e2⟩:=hF _ d;rw[hv]at e1;cases e1
   cases i:findF (fx .gtr l (.int .i64 (.ofNat 100000000))) E.facts with
   | none=>rw[i]at h;cases h
   | some r=>
    rw[i,ze]at h;obtain⟨f,d,e⟩:=qD i;obtain⟨_,_,_,_,a⟩:=Ve e (hF _ d);have a:=a 0 default;rw[e2]at a
    cases g:asBool r with
    | none=>rw[g]at h;cases h
    | some b=>
     rw[g,ze,qW]at h;obtain rfl:=QF g;have a:(Go.binOp .gtr 0 (.int .i64 (s.size:Nat)) (.int .i64 100000000)).run E.P default = .ok (.bool b) default:=a;simp[Go.binOp,Op.intCmp]at a;have hb:b=false:=by simpa using h
     rw[hb]at a;have a:=of_decide_eq_false a;omega
theorem Rel.Tk(hR:Rel P β H w){s:Ee}(d:WF β c)(hc:J β c = .string s)(f:qS P e=1)(fz:Nat×Nat)
  (hf:∀i,i<s.size+extra.length->¬(fz.1<=i/\i<fz.2)) :
  Rel P (β.put H.next (w.heap.size,0,s.size+extra.length)) ⟨H.blk.set H.next (.ints e c),H.next+1⟩ (push w (.cells (K β (iQ s)++extra).toArray e fz)) /\
  Ext β H w (β.put H.next (w.heap.size,0,s.size+extra.length)) ⟨H.blk.set H.next (.ints e c),H.next+1⟩ (push w (.cells (K β (iQ s)++extra).toArray e fz)):=by
 have _:=hE;have hl:(K β (iQ s)).length=s.size:=by rw[zC,Ls,cE]
 refine hR.add _ _ _ ⟨_,fz,yN _ _,Qa.mono ⟨d,⟨s,hc,Al _ _⟩,?_,?_,?_,f⟩ (Inj.yL (hR.fresh (Lh _)))⟩
 .simp[hl]
 .intro i b hb;rw[hc]at hb;have a:=(LO.1 hb).1;have a:i<s.size:=a;rw[Lz,AB,Ao (by rw[hl];exact a),tO];have hb:s.data[i]?=some b:=hb;rw[hb];rfl
 .intro i hi;exact hf i (by simpa[hl] using hi)
theorem Bd(hF:zJ E β)(hR:Rel E.P β H w){xd:Es}{s:G}(hd:E.desc T=some (.slice e))(Q:E.desc xT=some xd)(hni:isInt xd=false)
  (h:zif E H e s x=some (v,H')) (hs:WF β s) (hx:WF β x) (ty:Eg) :
  Sim E.P β H w (Builtin.append_ #[T,xT] ty #[J β s,J β x]) v H':=by
 replace h:=D h;obtain⟨ed,_,h⟩:=h;replace h:=D h;obtain⟨k,_,h⟩:=h;replace h:=D h;obtain⟨i,hi,h⟩:=h;replace h:=zh h;obtain⟨hu,h⟩:=h;simp only[zl,Le,zA,Ll,zK,Lk]at hu;obtain⟨_,a,hb1,u⟩:=hu
 have hts:qS E.P e=1:=by
  have:=(QI hE (show E.size e=some i.size by unfold Env.size;rw[hi];rfl)).choose_spec.2.2.2;rw[this,a]
 replace h:=D h;obtain⟨q,hq,h⟩:=h;obtain rfl:=kc hq;replace h:=zh h;obtain⟨hc,h⟩:=h;rw[zl,Le,zA,Ll]at hc;obtain⟨hex,g⟩:=hc;replace h:=D h;obtain⟨p,hp,h⟩:=h;obtain rfl:=JX hp;replace h:=D h;obtain⟨b,hb,h⟩:=h;replace h:=D h;obtain⟨r,hr,h⟩:=h;obtain rfl:=mZ hr;replace h:=zh h;obtain⟨hv,h⟩:=h;simp only[zl,Le]at hv;obtain⟨hv,d,f⟩:=hv;have hv:=zV _ _ hv;obtain⟨w1,w2,t,hc,ht⟩:=hx;have hpos:=bT hE hF d hc;have hle:=nH hE hF f hc;unfold zfN at h;simp only[qg]at h;cases h;obtain⟨z,u,m⟩:=J5 hE u;have hlen:q.len=0:=by have:=hs.2;omega
 have hcs:J β (.slice q.b q.off q.len q.cap q.ex) = .slice (some (β.addr q.b q.off)) 0 0:=by simp[J,hex,g,hlen]
 obtain⟨k,extra,k1,k2⟩:=run_append_grow hE (sLen:=0) (sCap:=0) (base:=some (β.addr q.b q.off)) (old:=[]) (new:=iQ t) (n:=t.size) (β:=β) (w:=w) (x:=.osl p.1 p.2) hd Q hi u (by rw[a];exact m)
  (by have:=Nat.mul_le_mul hle hb1;rw[Lz];omega) I
  (Or.inl ⟨hni,by simp[Builtin.lenOf,J,hc,sOf],λw' l=>by
   rw[a];have:=Gc (hR.alike l) hb w1 (by rw[hv];exact hc)
   simp[Builtin.firstCells,J,this]⟩)
  (λw' _=>by simp[Builtin.firstCells,K,loadCells,loadCellsFrom]) I ty
 have l:=ZC w;rw[a,Ak]at k1;obtain⟨r1,r2⟩:=(hR.alike l).Tk hE (e:=e) (extra:=extra) w2 hc hts (0,0) Oc;have hf:β H.next=none:=hR.fresh (Lh _);obtain⟨o1,o2⟩:=dh hE (H:=H) (x:=(w.heap.size,0,t.size+extra.length)) w2 hc hf (Al _ _);refine⟨β.put H.next (w.heap.size,0,t.size+extra.length),_,?_,o1,r1,(Ext.alike hR.bnd l).trans r2⟩;rw[hcs,k2,o2,k1];simp only[Lz,nil_append]
theorem iW(hF:zJ E β)(hR:Rel E.P β H w){g:Eg}{s:G}(h:pM E H T g s x=some (v,H'))(hs:WF β s)(hx:WF β x)(ty:Eg) :
  Sim E.P β H w (Builtin.append_ #[T,g] ty #[J β s,J β x]) v H':=by
 unfold pM at h;rw[zo]at h;split at h
 .cases hp:nT E H T g s x with
  | some r=>
   rw[hp,ze]at h;cases h
   exact iK hE hR hp hs hx ty
  | none=>
   rw[hp,zn]at h;exact iu hE hR h hs hx ty
 .replace h:=D h;obtain⟨d,hd,h⟩:=h;replace h:=D h;obtain⟨e,he,h⟩:=h;replace h:=D h;obtain⟨k,a,h⟩:=h;replace h:=Za h;obtain⟨f,h⟩:=h;obtain rfl:=j4 he
  cases i:zeF E H e s x with
  | some r=>
   rw[i,ze]at h;cases h
   exact Bc hE hF hR hd a f i hs hx ty
  | none=>
   rw[i,zn]at h;exact Bd hE hF hR hd a f h hs hx ty
end
end
section
variable[Unk]
def Sim.MN{P : Program}{a : Inj}{H H' : Heap}{w w' : World}{m : Sem Value}{v : G}(h : m.run P w = .ok (J a v) w')(hv : WF a v)(hR : Rel P a H' w')(hE : Ext a H w a H' w') :
    Sim P a H w m v H' := ⟨a, w', h, hv, hR, hE⟩
section
variable{E:Env}(hE:yF E)
include hE
theorem uU{g:Inj}(hR:Rel E.P g H w){d:G}(h:zcx E H T d x=some (v,H'))(hd:WF g d)(hx:WF g x)(r:Array TypeId)(u:r[0]?=some T)(ty:Eg) :
  Sim E.P g H w (Builtin.copy_ r ty #[J g d,J g x]) v H':=by
 replace h:=D h;obtain⟨t,i,h⟩:=h;replace h:=D h;obtain⟨e,he,h⟩:=h;obtain rfl:=j4 he;replace h:=D h;obtain⟨n,j,h⟩:=h;replace h:=D h;obtain⟨p,hp,h⟩:=h;replace h:=zh h;obtain⟨c,h⟩:=h;rw[zA,jV,Ll]at c;have c:p.2.length=p.1*n:=c;obtain⟨g1,Q,z,y⟩:=aw hE hR hp hx
 have f:∀a b,FZ a b=Nat.min a b:=by
  intro a b;unfold FZ;rw[zo,zK];by_cases h:a<=b
  .rw[Y (by simp[h])];exact(Nat.min_eq_left h).symm
  .rw[O (by simp[h])];exact(Nat.min_eq_right I).symm
 cases h1:yp d with
 | none=>
  rw[h1,zn]at h;replace h:=zh h;obtain⟨h2,h⟩:=h;obtain rfl:=jO h2;cases h;refine qk.sim ⟨?_,trivial⟩ hR;unfold Builtin.copy_;have m:=y (Nat.min p.1 0) (Nat.min_le_left _ _) c;simp only[u,AB,getElem?_cons_zero,Ap,Lg,zr hE i,Li,J,g1,qK hE j,m]
  simp[goInt,J]
 | some q=>
  obtain rfl:=kc h1;rw[h1,ze]at h;replace h:=D h;obtain⟨H1,l,h⟩:=h;cases h;rw[K0]at l
  have hw:WFs g (p.2.take (FZ p.1 q.len*n)):=by
   rw[qb]at *;intro v hv;exact z v (mem_of_mem_take hv)
  obtain⟨w',s1,s2,s3⟩:=hR.Jz l hd.1 hw;have s1:(storeCells (g.addr q.b q.off) (K g (p.2.take (FZ p.1 q.len*n)))).run E.P w = .ok () w':=s1;refine Sim.MN ?_ (by simp[WF]) s2 s3;unfold Builtin.copy_;have m:=y (Nat.min p.1 q.len) (Nat.min_le_left _ _) c;rw[<- f]at m;simp only[u,AB,getElem?_cons_zero,Ap,Lg,zr hE i,Li,J,g1,qK hE j,<- f,m,s1];simp[goInt,J]
theorem pL(hR:Rel E.P β H w)(h:Ry E H t x=some (v,H'))(hx:WF β x)(c:Array TypeId)(a:c[0]?=some t)(ty:Eg) :
  Sim E.P β H w (Builtin.clear_ c ty #[J β x]) v H':=by
 replace h:=D h;obtain⟨d,hd,h⟩:=h;replace h:=D h;obtain⟨e,he,h⟩:=h;obtain rfl:=j4 he
 cases h1:yp x with
 | none=>
  rw[h1,zn]at h;replace h:=zh h;obtain⟨h2,h⟩:=h;obtain rfl:=jO h2;cases h;refine qk.sim ⟨?_,Oc⟩ hR;unfold Builtin.clear_
  simp[a,zr hE hd,J,undef]
 | some q=>
  obtain rfl:=kc h1;rw[h1,ze]at h
  cases hl:q.len with
  | zero=>
   rw[hl,aS]at h;cases h;refine qk.sim ⟨?_,Oc⟩ hR;unfold Builtin.clear_
   simp[a,zr hE hd,J,undef]
  | succ n=>
   rw[hl,Vc]at h;replace h:=D h;obtain⟨z,g,h⟩:=h;replace h:=D h;obtain⟨H1,b,h⟩:=h;cases h;obtain⟨f,z2⟩:=yi hE g β w;obtain⟨w',s1,s2,s3⟩:=hR.Jz b hx.1 (aD (j9 z2) _);refine Sim.MN ?_ Oc s2 s3
   have i:Builtin.zeroCells (J β z).cells (n+1)=(K β (Jg (zU z) (n+1))).toArray:=by
    unfold Builtin.zeroCells;have:=Jp (β:=β) (zU z) (zU z).length (n+1) rfl (J β z).cells (λ_=>jm β z);rw[show(J β z).cells.size=(zU z).length by rw[jm,zC];simp];rw[show(J β z).cells.size=(zU z).length by rw[jm,zC];simp]at this;exact this
   unfold Builtin.clear_;simp only[a,AB,getElem?_cons_zero,Lg,zr hE hd,Li,J,f,i,s1];simp[J,jo,K]
theorem iS{g:Inj}{a:Es}{k:Et}{i:Int}(hs:E.desc src=some a)(hd:E.desc dst=some (.int k))(hx:WL x=some i) :
  qk E.P g w (Go.convert src dst (J g x)) (mkInt k (Q1 k i)):=by
 obtain⟨j,rfl⟩:=JY hx;refine⟨?_,by simp[WF]⟩;unfold Go.convert;simp[zr hE hs,zr hE hd,J,Conv.intToInt,yn]
omit hE in
theorem cI(w:Ea)(arr:Eh)(t:Eg) :
  (push w (.cells arr t)).freeze ⟨w.heap.size,arr.size,none⟩ 1=push w (.cells arr t (arr.size,arr.size+1)):=by
 unfold World.freeze push;simp only[Nat.one_ne_zero,LY];congr 1;apply Array.ext_getElem?;intro k;rw[AD];by_cases hk:w.heap.size=k
 .subst hk;simp
 .rw[O hk,getElem?_push,getElem?_push,O (λe=>hk e.symm),O (λe=>hk e.symm)]
theorem cW{a : Inj}{H : Heap}{w : World}(hR : Rel E.P a H w){src dst e : TypeId}{s : List Nat}{v : G}{H' : Heap}(hs : E.desc src = some .string)(hd : E.desc dst = some (.slice e))
    (h : xN E H e s = some (v, H')) (hx : ∀b ∈ s, b < 256) : Sim E.P a H w (Go.convert src dst (.string (str s))) v H' := by
  replace h := D h;obtain⟨d, he, h⟩ := h;replace h := D h;obtain⟨k, hk, h⟩ := h;have := XD hk;subst this;replace h := zh h;obtain⟨g, h⟩ := h;rw[zl, Le] at g;obtain⟨g, h1⟩ := g;have := Vk g;subst this
  have j : qS E.P e = 1 := by
    unfold rZ at h1
    cases f : E.size e with
    | none => rw[f] at h1; cases h1
    | some n =>
      rw[f, ze, zA, Ll] at h1;subst h1;exact(QI hE f).choose_spec.2.2.2
  simp only[qg] at h;have h := ks h;cases h;have hq := xy s.length 0 e (w.tape w.drawn (.appendCap s.length 0 e));generalize hcut : (Question.appendCap s.length 0 e).cut (w.tape w.drawn (.appendCap s.length 0 e)) = cap at hq;have u := ZC w;have r := hR.alike u
  have p : ((str s).data.map λb => Value.int .u8 b.toNat) ++ Array.replicate (cap - s.length) (Value.int .u8 0) = (K a (mapA u8 s) ++ List.replicate (cap - s.length) (Value.int .u8 0)).toArray := by
    rw[aq s hx a];apply Array.toList_inj.1;simp
  obtain⟨y, x⟩ := r.newRow (t := e) (e := cap - s.length) (fz := (s.length + (cap - s.length), s.length + (cap - s.length) + 1))
    (kE.ofList (RI a s) (List.replicate (cap - s.length) (Value.int .u8 0)) (cap - s.length) (by rw[j]; simp) _ (by intro i hi; simp at hi ⊢; omega))
  refine⟨a.put H.next (w.heap.size, 0, cap - s.length), _, ?_, ⟨by simp[Inj.zS], Lh _⟩, y, (Ext.alike hR.bnd u).trans x⟩;have l : (K a (mapA u8 s) ++ List.replicate (cap - s.length) (Value.int .u8 0)).toArray.size = s.length + (cap - s.length) := by simp[zC]
  unfold Go.convert;simp only[Lg, zr hE hs, zr hE hd, Li, zr hE he];unfold Conv.stringToBytes markStringish;simp only[Lg, run_choose, Question.forced, Ai, LY, qA, hcut, Li, p, newRow, run_newObj, Ln, run_shape]
  have m : (push { w with drawn := w.drawn + 1 } (.cells (K a (mapA u8 s) ++ List.replicate (cap - s.length) (Value.int .u8 0)).toArray e)).shape? w.heap.size =
      some (e, s.length + (cap - s.length)) := by
    unfold World.shape?;rw[yN { w with drawn := w.drawn + 1 }];simp[zC]
  have c := cI { w with drawn := w.drawn + 1 } (K a (mapA u8 s) ++ List.replicate (cap - s.length) (Value.int .u8 0)).toArray e;rw[l] at c;have c : (push { w with drawn := w.drawn + 1 } (.cells (K a (mapA u8 s) ++ List.replicate (cap - s.length) (Value.int .u8 0)).toArray e)).freeze ⟨w.heap.size, s.length + (cap - s.length), none⟩ 1 = _ := c
  have fin : ∀W : World, W = push { w with drawn := w.drawn + 1 } (.cells (K a (mapA u8 s) ++ List.replicate (cap - s.length) (Value.int .u8 0)).toArray e) ->
      ((match W.shape? w.heap.size with
        | some (_, n) => freeze { block := w.heap.size, off := n } 1
        | _ => (pure () : Sem Unit)).run E.P W).andThen (λ_ w' => Result.ok (Value.slice (some { block := w.heap.size, off := 0 }) s.length cap) w') =
      Result.ok (J (a.put H.next (w.heap.size, 0, cap - s.length)) (G.slice H.next 0 (je s 0) (je s 0) false))
        (push { w with drawn := w.drawn + 1 } (.cells (K a (mapA u8 s) ++ List.replicate (cap - s.length) (Value.int .u8 0)).toArray e (s.length + (cap - s.length), s.length + (cap - s.length) + 1))) := by
    intro W z;rw[z, m];simp only[run_freeze, Li];rw[c];simp only[J, jV, UM, Ai, LY, yV];rw[show s.length + (cap - s.length) = cap by omega]
  exact fin _ rfl
theorem gG{a : Inj}{H : Heap}{w : World}(hR : Rel E.P a H w){src dst e : TypeId}{d : TypeDesc}{k : IntKind}{x : G}{s : ByteArray}(hs : E.desc src = some .string)(hd : E.desc dst = some (.slice e))(he : E.desc e = some d)(hk : Wx d = some k)
    (j : L (oB k) (rZ E e) = true) (hx : WF a x) (hc : J a x = .string s) : Sim E.P a H w (Go.convert src dst (.string s)) (.osl H.next x) ⟨H.blk.set H.next (.text e x), H.next + 1⟩ := by
  have := XD hk;subst this;rw[zl, Le] at j;obtain⟨j, h1⟩ := j;have := Vk j;subst this
  have l : qS E.P e = 1 := by
    unfold rZ at h1
    cases f : E.size e with
    | none => rw[f] at h1; cases h1
    | some n =>
      rw[f, ze, zA, Ll] at h1;subst h1;exact(QI hE f).choose_spec.2.2.2
  have hq := xy s.size 0 e (w.tape w.drawn (.appendCap s.size 0 e));generalize hcut : (Question.appendCap s.size 0 e).cut (w.tape w.drawn (.appendCap s.size 0 e)) = cap at hq;have v := ZC w;have u := hR.alike v
  have r : (s.data.map λb => Value.int .u8 b.toNat) ++ Array.replicate (cap - s.size) (Value.int .u8 0) = (K a (u8s s) ++ List.replicate (cap - s.size) (Value.int .u8 0)).toArray := by
    apply Array.toList_inj.1;simp[u8s_conc]
  have h : (List.replicate (cap - s.size) (Value.int .u8 0)).length = cap - s.size := length_replicate;obtain⟨z, y⟩ := u.newText hE (e := e) (extra := List.replicate (cap - s.size) (Value.int .u8 0)) hx hc l (s.size + (cap - s.size), s.size + (cap - s.size) + 1) (by intro i hi; rw[h] at hi; simp; omega);have Q : a H.next = none := hR.fresh (Lh _);obtain⟨o1, o2⟩ := dh hE (H := H) (x := (w.heap.size, 0, s.size + (List.replicate (cap - s.size) (Value.int .u8 0)).length)) hx hc Q (Al _ _);refine⟨_, _, ?_, o1, z, (Ext.alike hR.bnd v).trans y⟩;have g : (K a (u8s s)).length = s.size := by rw[zC, Ls, u8s_length]
  have m : (K a (u8s s) ++ List.replicate (cap - s.size) (Value.int .u8 0)).toArray.size = s.size + (cap - s.size) := by simp[g]
  unfold Go.convert;simp only[Lg, zr hE hs, zr hE hd, Li, zr hE he];unfold Conv.stringToBytes markStringish;simp only[Lg, run_choose, Question.forced, Ai, LY, hcut, Li, r, newRow, run_newObj, Ln, run_shape]
  have p : (push { w with drawn := w.drawn + 1 } (.cells (K a (u8s s) ++ List.replicate (cap - s.size) (Value.int .u8 0)).toArray e)).shape? w.heap.size =
      some (e, s.size + (cap - s.size)) := by
    unfold World.shape?;rw[yN { w with drawn := w.drawn + 1 }];simp[g]
  have c := cI { w with drawn := w.drawn + 1 } (K a (u8s s) ++ List.replicate (cap - s.size) (Value.int .u8 0)).toArray e;rw[m] at c;have c : (push { w with drawn := w.drawn + 1 } (.cells (K a (u8s s) ++ List.replicate (cap - s.size) (Value.int .u8 0)).toArray e)).freeze ⟨w.heap.size, s.size + (cap - s.size), none⟩ 1 = _ := c
  have fin : ∀W : World, W = push { w with drawn := w.drawn + 1 } (.cells (K a (u8s s) ++ List.replicate (cap - s.size) (Value.int .u8 0)).toArray e) ->
      ((match W.shape? w.heap.size with
        | some (_, n) => freeze { block := w.heap.size, off := n } 1
        | _ => (pure () : Sem Unit)).run E.P W).andThen (λ_ w' => Result.ok (Value.slice (some { block := w.heap.size, off := 0 }) s.size cap) w') =
      Result.ok (J (a.put H.next (w.heap.size, 0, s.size + (List.replicate (cap - s.size) (Value.int .u8 0)).length)) (G.osl H.next x))
        (push { w with drawn := w.drawn + 1 } (.cells (K a (u8s s) ++ List.replicate (cap - s.size) (Value.int .u8 0)).toArray e (s.size + (cap - s.size), s.size + (cap - s.size) + 1))) := by
    intro W T;rw[T, p];simp only[run_freeze, Li];rw[c, o2, h];rw[show s.size + (cap - s.size) = cap by omega]
  exact fin _ rfl
end
end
section
variable[Unk]
def Rel.drop{g:Inj}(hR:Rel P g H w){id:Nat}{b:X}{x:Ej}
  (h60:100<=id) (hb:H.blk.get id=some b) (hx:g id=some x) (ht:J1 x.1 w w') :
  Rel P g ⟨H.blk.del id,H.next⟩ w'/\Ext g H w g ⟨H.blk.del id,H.next⟩ w':=by
 have aux:∀i c,(H.blk.del id).get i=some c->i≠id/\H.blk.get i=some c:=by
  intro i c h;rw[M.jv]at h;by_cases hi:id=i
  .rw[Y hi]at h;cases h
  .rw[O hi]at h;exact⟨λe=>hi e.symm,h⟩
 refine⟨⟨hR.base,?_,λi j c d y z h1 h2 h3 k e=>hR.inj _ _ _ _ _ _ (aux _ _ h1).2 h2 (aux _ _ h3).2 k e,hR.bnd,λi c h=>hR.live _ _ (aux _ _ h).2⟩,
  ⟨λ_ _=>rfl,Lh _,?_,λi c _ h=>⟨c,(aux _ _ h).2⟩,λi hi=>(by show(H.blk.del id).get i=_;rw[M.jv,O I]),λi y hi e=>Ld (hR.bnd _ _ e) I,?_,by rw[ht.size];exact Lh _,ht.tape,ht.os,ht.output⟩⟩
 .intro i c y h1 h2;obtain⟨g1,f⟩:=aux _ _ h1;refine(hR.blk i c y f h2).heap (ht.other _ λe=>g1 ?_);exact hR.QV (.inr h60) f h2 hb hx e
 .intro i _ e;show(H.blk.del id).get i=_;rw[M.jv,O];intro hi;subst hi;rw[hx]at e;cases e
 .intro c _ hc;exact ht.other c λe=>hc ⟨id,b,x,h60,hb,hx,e.symm⟩
def nd(w:Ea)(a:Addr)(n:Nat):J1 a.block w (w.freeze a n):=by
 unfold World.freeze;split
 .exact .refl _ _
 .refine⟨λk b=>?_,Oc,rfl,rfl,rfl⟩;simp only[AD];rw[O (λe=>b e.symm)]
def Kx(h:Vr v=some b):∃n:Nat,v = .int .u8 (.ofNat n)/\b=n % 256:=by
 replace h:=D h;obtain⟨p,hp,h⟩:=h;obtain rfl:=jx hp;replace h:=zh h;obtain⟨h1,h⟩:=h;have:=Vk h1;replace h:=jq h;obtain⟨n,hn,h⟩:=h;cases h;exact⟨n,by rw[this,hn],rfl⟩
def WI:∀ {cs:List G}{l:Eb},US cs=some l->∃ns:List Nat,cs=ns.map (λn=>.int .u8 (.ofNat n))/\l=ns.map (· % 256)
 | [],l,h=>by
  have h:some ([]:List Nat)=some l:=h
  cases h;exact⟨[],rfl,rfl⟩
 | v::cs,l,h=>by
  have h:(bnd (Vr v) λb=>bnd (US cs) λm=>some (b::m))=some l:=(YA Vr v cs).symm.trans h;replace h:=D h;obtain⟨b,hb,h⟩:=h;replace h:=D h;obtain⟨m,hm,h⟩:=h;cases h;obtain⟨n,rfl,rfl⟩:=Kx hb;obtain⟨ns,rfl,rfl⟩:=WI hm;exact⟨n::ns,rfl,rfl⟩
def ofNat_mod(n:Nat):UInt8.ofNat (n % 256)=UInt8.ofNat n:=by
 apply UInt8.toNat_inj.1;simp
def BL(ns:Eb):str (ns.map (· % 256))=⟨(ns.map UInt8.ofNat).toArray⟩:=by
 unfold str;congr 2;rw[LZ];exact Ab λn _=>ofNat_mod n
def RJ(c:Inj)(ns:Eb):WF c (.str (ns.map (· % 256))):=by
 intro b hb;obtain⟨n,_,rfl⟩:=Lv.1 hb;exact Af _ I
def um(b:Inj)(ns:Eb):K b (ns.map λn=>G.int .u8 (.ofNat n))=(ns.map Int.ofNat).map (Value.int .u8):=by
 rw[zC,LZ,LZ];rfl
def fold_push(ns:Eb):∀s:ByteArray,(ns.map Int.ofNat).foldl (λr n=>r.push (UInt8.ofNat n.toNat)) s=⟨s.data++(ns.map UInt8.ofNat).toArray⟩:=by
 induction ns with
 | nil=>intro s;simp
 | cons n ns ih=>
  intro s;rw[Aw,foldl_cons,ih];apply ByteArray.ext;simp[ByteArray.push]
section
variable{E:Env}(hE:yF E)
include hE
theorem iU{c:Inj}(hF:zJ E c)(hR:Rel E.P c H w)(hs:E.desc src=some (.slice e))(hd:E.desc dst=some .string)
  (h:Dn E H e x=some (v,H')) (hx:WF c x):Sim E.P c H w (Go.convert src dst (J c x)) v H':=by
 replace h:=D h;obtain⟨d,he,h⟩:=h;replace h:=D h;obtain⟨k,hk,h⟩:=h;obtain rfl:=XD hk;replace h:=zh h;obtain⟨hu,h⟩:=h;obtain rfl:=Vk hu
 cases h1:yp x with
 | none=>
  rw[h1,zn,zo]at h;split at h
  case isFalse=>
   replace h:=D h;obtain⟨p,hp,h⟩:=h;replace h:=D h;obtain⟨u,z,h⟩:=h;cases h;obtain⟨w1,s,f,e2,Q⟩:=Xe hE hF hR z hx;obtain rfl:=JX hp;have m:=Q w (alike_refl w);have m:(loadCells (c.addr p.1 0) s.size).run E.P w = .ok (K c (u8s s)).toArray w:=by simpa[Builtin.firstCells,J] using m
   have e5:(sOf (J c p.2)).size=s.size:=by
    have:(Builtin.lenOf (J c (.osl p.1 p.2))).run E.P w = .ok (sOf (J c p.2)).size w:=by simp[Builtin.lenOf,J]
    rw[this]at e2;exact(Result.ok.inj e2).1
   refine qk.sim ⟨?_,w1⟩ hR;rw[u8s_conc]at m;have i:=run_convert_bytes_string (P:=E.P) w src dst e (some (c.addr p.1 0)) s.size (c.ext p.1) (yE hE hs) (yE hE he) (yE hE hd);have e6:=run_bytesToString (P:=E.P) w (c.addr p.1 0) s.size (c.ext p.1) (s.data.toList.map λb=>((b.toNat:Nat):Int)) (by rw[m,LZ];rfl);show(Go.convert src dst (.slice (some (c.addr p.1 0)) (sOf (J c p.2)).size (c.ext p.1))).run E.P w=_;rw[e5,i,e6,f]
   have key:∀(l:List UInt8) (r:Ee),(l.map λb=>((b.toNat:Nat):Int)).foldl (λr n=>r.push (UInt8.ofNat n.toNat)) r=⟨r.data++l.toArray⟩:=by
    intro l
    induction l with
    | nil=>intro r;simp
    | cons b l ih=>
     intro r;simp only[Aw,foldl_cons];rw[ih];simp[ByteArray.push]
   rw[key];simp
  rename_i h2;obtain rfl:=jO h2;cases h;refine qk.sim ⟨?_,by intro b hb;cases hb⟩ hR;have i:=run_convert_bytes_string (P:=E.P) w src dst e none 0 0 (yE hE hs) (yE hE he) (yE hE hd);show(Go.convert src dst (.slice none 0 0)).run E.P w=_;rw[i]
  rfl
 | some s=>
  obtain rfl:=kc h1;rw[h1,ze]at h
  replace h:∃ns:List Nat,H.yl s.b s.off s.len=some (ns.map u8)/\v = .str (ns.map (· % 256))/\H'=H:=by
   cases hq:pkL H s with
   | some l=>
    rw[hq,ze]at h;cases h;obtain⟨f,_,Q⟩:=Ms hq;refine⟨l,Q,?_,rfl⟩
    have:l.map (· % 256)=l:=by
     refine(Ab (g:=λb=>b) λb hb=>?_).trans (List.map_id' l);exact AA (f b hb)
    rw[this]
   | none=>
    rw[hq,zn]at h;obtain⟨cs,hl,h⟩:=D h;obtain⟨l,hb,h⟩:=D h;cases h;obtain⟨ns,rfl,rfl⟩:=WI hb;exact⟨ns,hl,rfl,rfl⟩
  obtain⟨ns,hl,rfl,rfl⟩:=h;obtain⟨g1,g2,T⟩:=hR.yl hl hx.1;refine qk.sim ⟨?_,RJ c ns⟩ hR;have t:ns.map u8=ns.map λn=>G.int IntKind.u8 (Int.ofNat n):=rfl;rw[t,um]at T;have i:=run_convert_bytes_string (P:=E.P) w src dst e (some (c.addr s.b s.off)) s.len (if s.ex then s.cap else s.cap+c.ext s.b) (yE hE hs) (yE hE he) (yE hE hd);have f:=run_bytesToString (P:=E.P) w (c.addr s.b s.off) s.len (if s.ex then s.cap else s.cap+c.ext s.b) _ T;show(Go.convert src dst (.slice (some (c.addr s.b s.off)) s.len (if s.ex then s.cap else s.cap+c.ext s.b))).run E.P w=_;rw[i,f,fold_push,J,BL];simp
omit hE in
theorem X6{P:Ef}(w:Ea):∀(ns:Eb) (a:Addr) (acc:Ee),(∀j n,ns[j]?=some n->w.cell? (a.add j)=some (.int .u8 (.ofNat n))) ->
  (loadBytes a acc ns.length).run P w = .ok ⟨acc.data++(ns.map UInt8.ofNat).toArray⟩ w
 | [],a,acc,_=>by simp[loadBytes]
 | x::l,a,acc,h=>by
  have h0:w.cell? a=some (.int .u8 (.ofNat x)):=by
   have:=h 0 x rfl;simpa[Addr.add] using this
  have ih:=X6 (P:=P) w l (a.add 1) (acc.push (UInt8.ofNat x)) (λj y hy=>by
   have:=h (j+1) y (by simpa using hy)
   have e:(a.add 1).add j=a.add (j+1):=by
    unfold Addr.add;by_cases hj:j=0
    .subst hj;simp
    .simp[hj];omega
   rw[e];exact this)
  have hx:((Int.ofNat x).toNat).toUInt8=UInt8.ofNat x:=by simp
  simp only[Am,loadBytes,Lg,run_load,h0,Result.andThen,hx];rw[ih];congr 1;apply ByteArray.ext;simp[ByteArray.push]
omit hE in
theorem Nz(hc:P.cellsOf e=1)(count off n:Nat)(hn:off+n<=count):liesAt P P.depth e count off e n=true:=by
 have hd:P.depth=(2*(P.types.size+Made.depth)+1)+1:=rfl;rw[hd];simp only[liesAt,AK];left;rw[hd];simp[rowAt,hc,hn,sameLayout,mod_one]
theorem cellsOf_size(h:E.size t=some n):E.P.cellsOf t=n:=by
 obtain⟨i,h1,h2,h3,b⟩:=QI hE h;unfold Program.cellsOf;rw[h1];exact h3
theorem iX{c : Inj}{H H' : Heap}{w : World}(hR : Rel E.P c H w){i it ty : TypeId}{p v : G}{n : Nat}(h : pN E H i p n = some (v, H'))(hp : WF c p)(hn63 : n <= 9223372036854775807) :
    Sim E.P c H w (Builtin.unsafeString_ #[i, it] ty #[J c p, .int .i64 n]) v H' := by
  unfold pN at h
  cases n with
  | zero =>
    rw[aS] at h
    have hs : ∃q, J c p = .pointer q /\ v = .str [] /\ H' = H := by
      rw[zo] at h;by_cases h1 : wQ p = true
      · rw[Y h1] at h
        have := Ga h1;subst this;cases h;exact⟨none, rfl, rfl, rfl⟩
      · rw[O h1] at h
        replace h := D h;obtain⟨q, hq, h⟩ := h;have := yU hq;subst this;cases h;exact⟨_, rfl, rfl, rfl⟩
    obtain⟨q, e1, rfl, rfl⟩ := hs;refine qk.sim ⟨?_, by intro b hb; cases hb⟩ hR;rw[e1]
    exact Lib.run_unsafeString_none w i it ty q
  | succ m =>
    rw[Vc] at h;replace h := D h;obtain⟨q, hq, h⟩ := h;have := yU hq;subst this;replace h := D h;obtain⟨d, hd, h⟩ := h;replace h := D h;obtain⟨u, hu, h⟩ := h;have := dI hu;subst this;replace h := D h;obtain⟨s, hs, h⟩ := h;replace h := D h;obtain⟨r, hr, h⟩ := h;replace h := zh h;obtain⟨hc, h⟩ := h;simp only[zl, Le, zK, zA, Lk, Ll] at hc;obtain⟨h60, rfl, hrt, hle⟩ := hc;have hle : q.2 + (m + 1) <= r.n := hle;replace h := D h;obtain⟨cs, hcs, h⟩ := h;replace h := D h;obtain⟨l, hl, h⟩ := h;cases h;obtain⟨ns, rfl, rfl⟩ := WI hl;obtain⟨k1, k2⟩ := M.jZ _ _ _ _ hcs;rw[Ls] at k1;obtain⟨arr, fz, g1, g2⟩ := hR.rowAt hr hp;have hsz := g2.size;obtain⟨x, hx⟩ := LM.1 hp;have Q : c.blk q.1 = x.1 := by simp[Inj.blk, hx]
    have T := nd w (c.addr q.1 q.2) (m + 1);have T : J1 x.1 w (w.freeze (c.addr q.1 q.2) (m + 1)) := by rw[<- Q]; exact T
    obtain⟨b0, hb0, _⟩ := JG hr;obtain⟨r1, r2⟩ := hR.drop h60 hb0 hx T;refine Sim.MN ?_ (RJ c ns) r1 r2
    have t := X6 (P := E.P) w ns (c.addr q.1 q.2) .empty (λj n hj => by
      rw[Inj.jS];have hjl : j < ns.length := (LL.1 hj).1;refine(hR.cell hr hp (v := .int .u8 (.ofNat n)) ?_).1
      rw[k2 j I, Lw, hj]; rfl)
    have f := cellsOf_size hE hs
    have hsh : w.shape? (c.addr q.1 q.2).block = some (u, arr.size) := by
      show w.shape? (c.blk q.1) = _;unfold World.shape?; rw[g1]; simp[hrt]
    have g := Nz (P := E.P) f (arr.size / E.P.cellsOf u) (c.sh q.1 + q.2) (m + 1) (by rw[f]; simp; omega)
    have z : Builtin.unsafeString_ #[i, it] ty #[.pointer (some (c.addr q.1 q.2)), .int .i64 ((m + 1 : Nat) : Int)] =
        (do
          let n <- Go.asInt (.int .i64 ((m + 1 : Nat) : Int))
          if n < 0 then runtimePanic (.error "unsafe.String: len out of range")
          if n > IntKind.i64.max then unsupported (.unsafePointer "String: a length above the largest int")
          if n = 0 then pure (.string .empty)
          else if <- variablesAt (c.addr q.1 q.2) (<- elemOf i) n.toNat then do
            let s <- loadBytes (c.addr q.1 q.2) .empty n.toNat
            freeze (c.addr q.1 q.2) n.toNat
            pure (.string s)
          else unsupported (.unsafePointer "String: not so many bytes at ptr")) := rfl
    have k : IntKind.i64.max = 9223372036854775807 := rfl;have n1 : ¬(((m + 1 : Nat) : Int) < 0) := by omega
    have n2 : ¬(((m + 1 : Nat) : Int) > IntKind.i64.max) := by rw[k]; omega
    have n3 : ¬(((m + 1 : Nat) : Int) = 0) := by omega
    have hl0 : liesAt E.P E.P.depth u (arr.size / E.P.cellsOf u) (c.addr q.1 q.2).off u (m + 1) = true := g;rw[k1] at t;show(Builtin.unsafeString_ #[i, it] ty #[.pointer (some (c.addr q.1 q.2)), .int .i64 ((m + 1 : Nat) : Int)]).run E.P w = _;rw[z];simp only[Go.asInt, asIntOf, Lg, Ln, Li, n1, n2, n3, LY, variablesAt, elemOf, zr hE hd, run_program, run_shape, hsh, hl0, toNat_natCast, t, run_freeze, if_true];rw[J, BL];simp
end
end
section
variable[Unk]
section
variable{E:Env}(hE:yF E)
include hE
omit hE in
theorem bJ(hR:Rel P β H w)(h:KE H x=some (v,H'))(hx:WF β x)(ts:Array TypeId)(ty:Eg) :
  Sim P β H w (Builtin.unsafeSliceData_ ts ty #[J β x]) v H':=by
 unfold KE at h
 cases h1:yp x with
 | none=>
  rw[h1,zn]at h;replace h:=zh h;obtain⟨h2,h⟩:=h;obtain rfl:=jO h2;cases h
  exact qk.sim ⟨rfl,trivial⟩ hR
 | some s=>
  obtain rfl:=kc h1;rw[h1,ze]at h;replace h:=YO h;obtain⟨m,hm,h⟩:=h;cases h;refine qk.sim ⟨?_,hx.1⟩ hR;exact Lib.run_unsafeSliceData_row w ts ty (β.addr s.b s.off) s.len _ (by split<;>omega)
theorem cX(hR:Rel E.P β H w)(hs:E.desc src=some (.pointer t))(hd:E.desc dst=some .unsafePointer)
  (h:mS E H t x=some (v,H')) (hx:WF β x):Sim E.P β H w (Go.convert src dst (J β x)) v H':=by
 replace h:=D h;obtain⟨p,hp,h⟩:=h;obtain rfl:=yU hp;replace h:=D h;obtain⟨s,c,h⟩:=h;replace h:=D h;obtain⟨r,T,h⟩:=h;replace h:=YO h;obtain⟨m,hm,h⟩:=h;replace h:=zh h;obtain⟨Q,h⟩:=h;rw[zW,Lk]at Q;cases h;refine qk.sim ⟨?_,hx⟩ hR;obtain⟨arr,fz,g1,g2⟩:=hR.rowAt T hx;have u:=g2.size;have z:w.shape? (β.blk p.1)=some (r.t,arr.size):=by unfold World.shape?;rw[g1]
 unfold Go.convert;simp only[Lg,zr hE hs,zr hE hd,Li,J,Conv.unsafePointer,Conv.seenAt,viewAt,cellsIn,run_shape,Inj.addr,z,isSome_some,if_true,Ln,qK hE c,hm,succ_ne_zero,decide_false];have:¬(arr.size<=β.sh p.1+p.2):=by omega
 simp[this]
theorem UQ(hR:Rel E.P β H w){u:Eg}(hs:E.desc src=some .unsafePointer)(hd:E.desc dst=some (.pointer u))
  (h:cN E H u x=some (v,H')) (hx:WF β x):Sim E.P β H w (Go.convert src dst (J β x)) v H':=by
 replace h:=D h;obtain⟨p,hp,h⟩:=h;obtain rfl:=yU hp;replace h:=D h;obtain⟨s,z,h⟩:=h;replace h:=D h;obtain⟨r,hr,h⟩:=h;replace h:=YO h;obtain⟨m,hm,h⟩:=h;replace h:=zh h;obtain⟨hc,h⟩:=h;simp only[zl,Le,zK,zA,Lk,Ll]at hc;obtain⟨hrt,c,hle⟩:=hc;have c:p.2 % s=0:=c;have hle:p.2+s<=r.n:=hle;cases h;refine qk.sim ⟨?_,hx⟩ hR;obtain⟨arr,fz,g1,g2⟩:=hR.rowAt hr hx;have hsize:=g2.size;have hts:qS E.P u=s:=(QI hE z).choose_spec.2.2.2;have hal:=g2.al;rw[hrt,hts]at hal;have T:=cellsOf_size hE z;have hsh:w.shape? (β.blk p.1)=some (u,arr.size):=by unfold World.shape?;rw[g1,hrt]
 have hdv:s ∣ β.sh p.1+p.2:=Nat.dvd_add hal (dvd_of_mod_eq_zero c)
 have Q:liesAt E.P E.P.depth u (arr.size / E.P.cellsOf u) (β.sh p.1+p.2) u 1=true:=by
  have hdp:E.P.depth=(2*(E.P.types.size+Made.depth)+1)+1:=rfl
  have h1:(β.sh p.1+p.2) / s+1<=arr.size / s:=by
   rw[le_div_iff_mul_le I,Nat.add_mul,Nat.div_mul_cancel hdv];omega
  have h2:(β.sh p.1+p.2) % s=0:=mod_eq_zero_of_dvd hdv;rw[hdp];simp only[liesAt,AK];left;rw[hdp];simp[rowAt,T,sameLayout,hm];left;rw[hm]at h1 h2;exact⟨h2,h1⟩
 unfold Go.convert;simp only[Lg,zr hE hs,zr hE hd,Li,J,Conv.unsafePointer,Conv.seenAt,viewAt,run_shape,Inj.addr,hsh,isSome_some,if_true,Ln,qK hE z,variablesAt,run_program,Q,Bool.or_true]
theorem iF(hF:zJ E β)(hR:Rel E.P β H w)(h:BI E H src dst x=some (v,H'))(hx:WF β x) :
  Sim E.P β H w (Go.convert src dst (J β x)) v H':=by
 replace h:=D h;obtain⟨T,hd,h⟩:=h;replace h:=D h;obtain⟨sd,hs,h⟩:=h
 cases hk:Wx T with
 | some k=>
  rw[hk,ze]at h;obtain rfl:=XD hk;replace h:=zh h;obtain⟨hi,h⟩:=h;replace h:=D h;obtain⟨r,p,h⟩:=h;cases h;obtain⟨f,hf,e⟩:=qD p;obtain rfl:=Nt e;obtain⟨h1,h2,j,n,c,Q⟩:=hF _ hf;refine qk.sim ⟨?_,h2⟩ hR;unfold Go.convert
  simp[zr hE hs,zr hE hd,c,Q,Conv.intToInt]
 | none=>
  rw[hk,zn]at h;replace h:=zh h;obtain⟨hc,h⟩:=h;obtain rfl:=jB hc;replace h:=D h;obtain⟨r,p,h⟩:=h;obtain⟨f,hf,e⟩:=qD p;obtain rfl:=Vd e;obtain⟨h1,h2,s,c,Q⟩:=hF _ hf;rw[zo]at h;split at h
  case isFalse=>
   replace h:=D h;obtain⟨e,he,h⟩:=h;obtain rfl:=j4 he;replace h:=D h;obtain⟨d,u,h⟩:=h;replace h:=D h;obtain⟨k,hk,h⟩:=h;obtain⟨hu,h⟩:=zh h;cases h;rw[c];exact gG hE hR hs hd u hk hu hx c
  rename_i z;obtain rfl:=jB z;cases h;refine qk.sim ⟨?_,hx⟩ hR;unfold Go.convert;simp[zr hE hs,c];rw[zr hE hd];simp
theorem ig(hF:zJ E β)(hR:Rel E.P β H w)(h:uV E H src dst x=some (v,H'))(hx:WF β x) :
  Sim E.P β H w (Go.convert src dst (J β x)) v H':=by
 replace h:=D h;obtain⟨dd,hd,h⟩:=h;replace h:=D h;obtain⟨sd,hs,h⟩:=h
 cases h1:asInt x with
 | some p=>
  rw[h1,ze]at h;replace h:=D h;obtain⟨k,hk,h⟩:=h;obtain rfl:=XD hk;replace h:=D h;obtain⟨i,hi,h⟩:=h;cases h
  exact qk.sim (iS hE hs hd hi) hR
 | none=>
  rw[h1,zn,zo]at h;split at h
  .rename_i c;obtain rfl:=jB c;replace h:=D h;obtain⟨s,z,h⟩:=h;obtain rfl:=qU z;rw[zo]at h;split at h
   .rename_i Q;obtain rfl:=jB Q;cases h;refine qk.sim ⟨?_,hx⟩ hR;unfold Go.convert;simp[zr hE hs,J];rw[zr hE hd];simp
   .replace h:=D h;obtain⟨e,he,h⟩:=h;obtain rfl:=j4 he;exact cW hE hR hs hd h hx
  .unfold xM at h
   cases h2:kD sd with
   | some e=>
    obtain rfl:=j4 h2;rw[h2,ze]at h;replace h:=zh h;obtain⟨h3,h⟩:=h;obtain rfl:=jB h3
    exact iU hE hF hR hs hd h hx
   | none=>
    rw[h2,zn]at h
    cases h3:xw sd with
    | some t=>
     obtain rfl:=dI h3;rw[h3,ze]at h;replace h:=zh h;obtain⟨T,h⟩:=h;obtain rfl:=gD T
     exact cX hE hR hs hd h hx
    | none=>
     rw[h3,zn]at h;replace h:=zh h;obtain⟨T,h⟩:=h;obtain rfl:=gD T;replace h:=D h;obtain⟨u,hu,h⟩:=h;obtain rfl:=dI hu;exact UQ hE hR hs hd h hx
omit hE in
theorem VF{kd:Es}(hd:P.underlying t=some kd){a b:Ei}{r:Bool}(h:Instr.sameNow kd a b=some r)(w:Ea):(Op.equal t a b).run P w = .ok r w:=by
 have hu:(Go.underlying t).run P w = .ok kd w:=run_underlying hd w;obtain⟨m,hm⟩:∃m,Op.maxDepth=m+1:=⟨Op.maxDepth-1,C⟩
 show(Op.equalIn Op.maxDepth t a b).run P w=_;rw[hm];unfold Instr.sameNow at h;split at h
 .split at h
  .rename_i hk;cases h;subst hk;simp[Op.equalIn,hu]
  .cases h
 .cases h;simp[Op.equalIn,hu]
 .cases h;simp[Op.equalIn,hu]
 .cases h
omit hE in
theorem Ww{P:Ef}{t:Eg}{kd:Es}(hd:P.underlying t=some kd){k:Ei}(w:Ea):∀(l:List MapEntry) (i:Nat) (r:Option (Nat×Value)),Instr.findNow kd k l i=some r->(Instr.findAsking t k l i).run P w = .ok r w
 | [],i,r,h=>by cases h;rfl
 | e::l,i,r,h=>by
  unfold Instr.findNow at h;split at h
  .rename_i hs;cases h;simp[Instr.findAsking,VF hd hs w]
  .rename_i hs;simp[Instr.findAsking,VF hd hs w,Ww hd w l (i+1) r h]
  .cases h
omit hE in
theorem JE{kd:Es}(hd:P.underlying t=some kd){k:Ei}(w:Ea)(l:List MapEntry):(Instr.findKey t k l).run P w=(Instr.findAsking t k l).run P w:=by
 unfold Instr.findKey;rw[Lg,run_underlying hd w,Li]
 cases h:Instr.findNow kd k l 0 with
 | none=>rfl
 | some r=>exact(Ww hd w l 0 r h).symm
theorem tA(hF:zJ E β){kd:Es}(hd:E.desc t=some kd){r:Bool}(h:CP E H t k x=some r)(hf:Vj E kd k=true)(hk:WF β k)(hx:WF β x)(w:Ea) :
  (Op.equal t (J β k) (J β x)).run E.P w = .ok r w:=by
 unfold CP at h
 cases hs:js k with
 | none=>
  rw[hs,zn]at h
  exact(U7 hE β hF H w 10000).1 _ _ _ _ h hk hx Op.maxDepth C
 | some a=>
  obtain rfl:=qU hs;rw[hs,ze]at h;replace h:=D h;obtain⟨b,hb,h⟩:=h;obtain rfl:=qU hb;cases h;have c:ye kd=true:=hf;obtain rfl:=jB c;rw[fE hk hx];obtain⟨m,hm⟩:∃m,Op.maxDepth=m+1:=⟨Op.maxDepth-1,C⟩
  show(Op.equalIn Op.maxDepth t _ _).run _ w=_;rw[hm];simp[J,Op.equalIn,zr hE hd,beq_toListBytes]
theorem bC{β : Inj}(hF : zJ E β){H : Heap}{t : TypeId}{kd : TypeDesc}(hd : E.desc t = some kd){k : G}(hf : Vj E kd k = true)(hk : WF β k)(w : World) : ∀(es : ag) (i : Nat) (f : Option G),
    CD E H t k es = some f -> (∀e ∈ es, WF β e.1) ->
    ∃r, (Instr.findAsking t (J β k) (es.map (QW β)) i).run E.P w = .ok r w /\
      match f with
      | none => r = none
      | some v => ∃j e, es[j]?=some e /\ e.1 = k /\ e.2.1 = v /\ r = some (i + j, J β v) /\ ∀j' e', j' < j -> es[j']?=some e' -> qF k e'.1 = false
  | [], i, f, h, _ => by cases h; exact⟨none, rfl, rfl⟩
  | e :: es, i, f, h, hw => by
    have h : (bnd (CP E H t k e.1) λr => ifB (qF k e.1) (ifB r (some (some e.2.1)) none) (ifB r none (CD E H t k es))) = some f := h;replace h := D h;obtain⟨r, hr, h⟩ := h;have hq := tA hE hF hd hr hf hk (hw e Oc) w;have hq : (Op.equal t (J β k) (QW β e).key).run E.P w = .ok r w := hq;rw[Aw, Instr.findAsking, Lg, hq, Li];rw[zo] at h;split at h
    · rename_i hv
      replace h := zh h;obtain⟨h1, h⟩ := h;subst h1;cases h;exact⟨_, rfl, 0, e, rfl, (zV _ _ hv).symm, rfl, rfl, by intro j' e' hj; omega⟩
    · rename_i hv
      replace h := Za h;obtain⟨h1, h⟩ := h;have h1 : r = false := by simpa using h1
      subst h1;obtain⟨r, Q, z⟩ := bC hF hd hf hk w es (i + 1) f h (λe' p => hw e' (by simp[p]));refine⟨r, Q, ?_⟩
      cases f with
      | none => exact z
      | some v =>
        obtain⟨j, e', q1, q2, q3, q4, T⟩ := z;refine⟨j + 1, e', by simpa using q1, q2, q3, by rw[q4]; congr 2; omega, ?_⟩;intro j' u hj c
        cases j' with
        | zero => simp at c; rw[<- c]; simpa using hv
        | succ j' => exact T j' u I (by simpa using c)
theorem xo(hR:Rel E.P β H w){es:ag}(h:H.zek x=some es)(hx:WF β x) :
  (∀e∈es,WF β e.2.1/\WF β e.1/\cy e.1=true) /\
  ((x = .nilmap/\es=[])\/∃r arr c,x = .map r/\w.heap[β.blk r]?=some (.map arr c)/\arr.toList=es.map (QW β)):=by
 have _:=hE;unfold Heap.zek at h;rw[zo]at h;split at h
 .rename_i hn;obtain rfl:=cB hn;cases h;exact⟨λe he=>Ld he Oc,.inl ⟨rfl,rfl⟩⟩
 .replace h:=D h;obtain⟨r,p,h⟩:=h;obtain rfl:=U3 p;replace h:=D h;obtain⟨b,hb,h⟩:=h;replace h:=D h;obtain⟨m,hm,h⟩:=h;cases h
  cases b with
  | map es c=>
   cases hm;obtain⟨y,hy⟩:=LM.1 hx;obtain⟨arr,Q,z,u⟩:=hR.blk r _ y hb hy
   exact⟨u,.inr ⟨r,arr,c,rfl,by simp[Inj.blk,hy];exact Q,z⟩⟩
  | cells _ _ _=>cases hm
  | loop _ _ _ _ _ _ _ _=>cases hm
  | siter _ _=>cases hm
  | text _ _=>cases hm
  | pack _ _ _=>cases hm
  | ints _ _=>cases hm
  | view _=>cases hm
omit hE in
theorem JD{P:Ef}{α:Type}(g:α->PUnit->Sem (ForInStep PUnit))(w:Ea):∀(l:List α),(∀x∈l,(g x ⟨⟩).run P w = .ok (.yield ⟨⟩) w)->(forIn l (⟨⟩:PUnit) g).run P w = .ok ⟨⟩ w
 | [],_=>by simp
 | x::l,h=>by
  rw[forIn_cons,Lg,h x Oc,Li];exact JD g w l λy hy=>h y (by simp[hy])
theorem VE{v:Ei}{b:Bool}(h:Xj E t=true):(Instr.checkKey b (n+1) t v).run E.P w = .ok () w:=by
 unfold Xj at h
 cases hd:E.desc t with
 | none=>rw[hd]at h;cases h
 | some d=>
  rw[hd,ze,zo]at h;rw[Instr.checkKey];split at h
  .rename_i hs;obtain rfl:=jB hs;simp[zr hE hd]
  .cases hi:Wx d with
   | none=>rw[hi]at h;cases h
   | some k=>
    obtain rfl:=XD hi;simp[zr hE hd]
omit hE in
theorem VJ{l:List G}:∀(fs:List Field),YT E l fs=true->∀f∈fs,Xj E f.type=true/\∃v,E.apart f.type l f.offset=some v
 | [],_,f,hf=>by cases hf
 | d::fs,h,f,hf=>by
  have h:L (L (Xj E d.type) (Z (E.apart d.type l d.offset) false kN)) (YT E l fs)=true:=h;rw[zl,zl,Le,Le]at h;obtain⟨⟨h1,h2⟩,h3⟩:=h;rcases Lf.1 hf with rfl|hf
  .refine⟨h1,?_⟩
   cases ha:E.apart f.type l f.offset with
   | none=>rw[ha]at h2;cases h2
   | some v=>exact⟨v,rfl⟩
  .exact VJ fs h3 f hf
omit hE in
theorem Ux{l:List G}{e:Eg}{s:Nat}:∀(is:Eb),Uy E e s l is=true->∀i∈is,∃v,E.apart e l (Nat.mul i s)=some v
 | [],_,f,hf=>by cases hf
 | d::is,h,f,hf=>by
  have h:L (Z (E.apart e l (Nat.mul d s)) false kN) (Uy E e s l is)=true:=h;rw[zl,Le]at h;rcases Lf.1 hf with rfl|hf
  .cases ha:E.apart e l (Nat.mul f s) with
   | none=>rw[ha]at h;exact Ld h.1 Oc
   | some v=>exact⟨v,rfl⟩
  .exact Ux is h.2 f hf
theorem run_checkKey{d:Es}{b:Bool}(h:E.desc t=some d)(hf:Vj E d k=true)(hk:WF β k):(Instr.checkKey b 10000 t (J β k)).run E.P w = .ok () w:=by
 rw[show(10000:Nat)=9999+1 from rfl];cases k
 case str s=>
  have u:ye d=true:=hf;obtain rfl:=jB u;rw[Instr.checkKey];simp[zr hE h]
 case int k n=>
  have hf:(Z (Wx d) false λ_=>true)=true:=hf
  cases hi:Wx d with
  | none=>rw[hi]at hf;cases hf
  | some k=>
   obtain rfl:=XD hi;rw[Instr.checkKey];simp[zr hE h]
 case agg l=>
  have p:L (Jb kN l) (Z (Z3 d) (Z (QC d) false λq=>wO E l q) λfs=>YT E l fs)=true:=hf;clear hf;rw[zl,Le]at p
  cases hi:Z3 d with
  | none=>
   rw[hi,zn]at p
   cases Q:QC d with
   | none=>rw[Q]at p;exact Ld p.2 Oc
   | some q=>
    rw[Q,ze]at p;obtain rfl:=QB Q;have hq:L (Xj E q.2) (Z (E.size q.2) false λs=>Uy E q.2 s l (List.range q.1))=true:=p.2;rw[zl,Le]at hq
    cases hs:E.size q.2 with
    | none=>rw[hs]at hq;exact Ld hq.2 Oc
    | some sz=>
     rw[hs,ze]at hq;have c:=Ux (E:=E) (List.range q.1) hq.2;rw[Instr.checkKey];simp only[Lg,zr hE h,Li,J];simp only[Std.Legacy.Range.forIn_eq_forIn_range',Std.Legacy.Range.size,Nat.sub_zero,Nat.add_one_sub_one,Nat.div_one,<- List.range_eq_range'];rw[JD _ w (List.range q.1)]
     .simp
     .intro i T;obtain⟨v,s2⟩:=c i T;have hp:=(ZG hE s2 hk w).1;have hp:(part q.2 (K β l).toArray (i*sz)).run E.P w = .ok (J β v) w:=hp
      simp only[Lg,qK hE hs,hp,Li,VE hE (n:=9998) hq.1,Ln]
  | some fs=>
   rw[hi,ze]at p;have u:=XC hi;obtain⟨z,e1,e2⟩:=u;subst e1;subst e2;rw[Instr.checkKey];simp only[Lg,zr hE h,Li,J];rw[<- Array.forIn_toList];have c:=VJ (E:=E) z.toList p.2;rw[JD _ w z.toList]
   .simp
   .intro f hfm;obtain⟨s1,v,s2⟩:=c f hfm;have hp:=(ZG hE s2 hk w).1;by_cases hn:f.name = "_"
    .simp[hn]
    .simp only[ne_eq,hn,not_false_eq_true,if_true,Lg,hp,Li,VE hE (n:=9998) s1,Ln]
 all_goals cases hf
theorem iV{β : Inj}(hF : zJ E β){H : Heap}{w : World}(hR : Rel E.P β H w){t : TypeId}{x k v : G}{ok : Bool}(h : DD E H t x k ok = some v)(hx : WF β x)(hk : WF β k) :
    qk E.P β w (Instr.lookup t (J β x) (J β k) ok) v := by
  replace h := D h;obtain⟨d, hd, h⟩ := h;replace h := D h;obtain⟨q, hq, h⟩ := h;have := dJ hq;subst this;replace h := D h;obtain⟨kd, p, h⟩ := h;replace h := zh h;obtain⟨Q, h⟩ := h;replace h := D h;obtain⟨es, hes, h⟩ := h;replace h := D h;obtain⟨f, hf, h⟩ := h;obtain⟨e1, e2⟩ := xo hE hR hes hx
  have key : ∀(arr : Array MapEntry), arr.toList = es.map (QW β) ->
      ((do
        Instr.checkKey arr.isEmpty 10000 q.1 (J β k)
        let(v, ok') <- match <- Instr.findKey q.1 (J β k) arr.toList with
          | some (_, v) => pure (v, true)
          | none => do pure (<- zeroValue q.2, false)
        pure (if ok then .tuple #[v, .bool ok'] else v)) : Sem Value).run E.P w = .ok (J β v) w /\ WF β v := by
    intro arr T;obtain⟨r, r1, r2⟩ := bC hE hF p Q hk w es 0 f hf (λe he => (e1 e he).2.1)
    have r1' : (Instr.findKey q.1 (J β k) arr.toList).run E.P w = .ok r w := by
      rw[JE (yE hE p), T, r1]
    simp only[Lg, run_checkKey hE p Q hk, Li, r1']
    cases f with
    | none =>
      rw[zn] at h;replace h := D h;obtain⟨z, hz, h⟩ := h;cases h;obtain⟨z1, z2⟩ := yi hE hz β w;rw[show r = none from r2];simp only[Lg, z1, Li, Ln]
      cases ok with
      | false => exact⟨rfl, z2⟩
      | true => exact⟨by simp[Wg, J, K], by simp[Wg, WF, WFs, z2]⟩
    | some u =>
      rw[ze] at h;cases h;obtain⟨j, e, q1, q2, q3, q4, _⟩ := r2;have hu : WF β u := by rw[<- q3]; exact(e1 e (LX q1)).1
      rw[q4];simp only[Lg, Li, Ln]
      cases ok with
      | false => exact⟨rfl, hu⟩
      | true => exact⟨by simp[Wg, J, K], by simp[Wg, WF, WFs, hu]⟩
  unfold qk Instr.lookup;simp only[Lg, zr hE hd, Li];rcases e2 with⟨rfl, rfl⟩|⟨r, arr, c, rfl, g1, g2⟩
  · have := key #[] rfl
    simp only[Lg] at this;rw[show J β .nilmap = .map none from rfl];simp only[Lg, Ln, Li];exact this
  · have := key arr g2
    simp only[Lg] at this;rw[show J β (.map r) = .map (some (β.blk r)) from rfl];simp only[Lg, MapKept.run_getObj_map g1, Li, Ln];exact this
omit hE in
theorem fu{k:G}{v:G}:∀ {es:ag}{j:Nat}{e:G×G×Nat},es[j]?=some e->qF k e.1=true->(∀j' e',j'<j->es[j']?=some e'->qF k e'.1=false) ->
  Tn k v es=es.set j (e.1,v,e.2.2)
 | [],j,e,h,_,_=>by cases h
 | x::es,j,e,h,hk,hn=>by
  have hm:Tn k v (x::es)=ifB (qF k x.1) ((x.1,v,x.2.2)::es) (x::Tn k v es):=rfl;rw[hm]
  cases j with
  | zero=>
   cases h
   rw[hk,qX];rfl
  | succ j=>
   rw[hn 0 x I rfl,yy,fu (j:=j) (e:=e) (by simpa using h) hk (λj' e' h1 h2=>hn (j'+1) e' I (by simpa using h2))];rfl
omit hE in
theorem VG(β:Inj)(n:Nat):∀ {l:List G},l.all kN=true->((K β l).zip (K β l)).all (λ(x,y)=>Instr.sameBits n x y)=true
 | [],_=>rfl
 | v::l,h=>by
  rw[all_cons,Le]at h;have:=VG β n h.2;rw[K,zip_cons_cons,all_cons,this];have h1:=h.1;cases v<;>first|(cases h1;done)|(cases n<;>simp[J,Instr.sameBits,MapKept.bytes_beq])
omit hE in
theorem nD(β:Inj)(h:cy v=true):Instr.sameBits 10000 (J β v) (J β v)=true:=by
 cases v
 case agg l=>
  have h:l.all kN=true:=by have h:Jb kN l=true:=h;rwa[Z9]at h
  have:=VG β 9999 h;show((K β l).toArray.size==(K β l).toArray.size&&_)=true;simpa using this
 all_goals first|(cases h;done)|(simp[J,Instr.sameBits,MapKept.bytes_beq])
theorem wM{d:Es}(h:Vj E d k=true):cy k=true:=by
 have _:=hE;cases k
 case agg l=>
  have hf:L (Jb kN l) (Z (Z3 d) (Z (QC d) false λq=>wO E l q) λfs=>YT E l fs)=true:=h;rw[zl,Le]at hf;exact hf.1
 all_goals first|rfl|cases h
omit hE in
theorem VB(h:kN v=true):qF v v=true:=by
 cases v<;>first|(cases h;done)|simp[qF,XJ,zl,QK,Xs,Uv]
omit hE in
theorem XW:∀ {l:List G},l.all kN=true->yh l l=true
 | [],_=>by simp[yh]
 | v::l,h=>by
  rw[all_cons,Le]at h;simp[yh,zl,VB h.1,XW h.2]
omit hE in
theorem VC(h:cy v=true):qF v v=true:=by
 cases v
 case agg l=>
  have h:l.all kN=true:=by have h:Jb kN l=true:=h;rwa[Z9]at h
  simp[qF,XW h]
 all_goals exact VB h
theorem Y7(hF:zJ E β)(hR:Rel E.P β H w){m:G}(h:hY E H t m k v=some H')(hm:WF β m)(hk:WF β k)(hv:WF β v) :
  ∃w',(Instr.mapUpdate t (J β m) (J β k) (J β v)).run E.P w = .ok () w'/\Rel E.P β H' w'/\Ext β H w β H' w':=by
 replace h:=D h;obtain⟨d,hd,h⟩:=h;replace h:=D h;obtain⟨q,hq,h⟩:=h;obtain rfl:=dJ hq;replace h:=D h;obtain⟨kd,hkd,h⟩:=h;replace h:=zh h;obtain⟨hks,h⟩:=h;replace h:=D h;obtain⟨r,hr,h⟩:=h;obtain rfl:=U3 hr;replace h:=D h;obtain⟨b,hb,h⟩:=h;replace h:=D h;obtain⟨p,hp,h⟩:=h;replace h:=zh h;obtain⟨h60,h⟩:=h;rw[zK,Lk]at h60;replace h:=D h;obtain⟨f,hf,h⟩:=h;cases h
 cases b with
 | cells _ _ _=>cases hp
 | loop _ _ _ _ _ _ _ _=>cases hp
 | siter _ _=>cases hp
 | text _ _=>cases hp
 | pack _ _ _=>cases hp
 | ints _ _=>cases hp
 | view _=>cases hp
 | map es c=>
  cases hp;obtain⟨y,hy⟩:=LM.1 hm;obtain⟨arr,a1,a2,a3⟩:=hR.blk r _ y hb hy;have hyb:β.blk r=y.1:=by simp[Inj.blk,hy]
  have a1':w.heap[β.blk r]?=some (.map arr c):=by rw[hyb];exact a1
  have hlt:=(LO.1 a1').1
  have ht:∀o,J1 y.1 w { w with heap:=w.heap.setIfInBounds (β.blk r) o }:=λo=>
   ⟨λi hi=>by simp only[AN];rw[O (by rw[hyb];exact λe=>hi e.symm)],Oc,rfl,rfl,rfl⟩
  have hat:∀o,({ w with heap:=w.heap.setIfInBounds (β.blk r) o }:World).heap[y.1]?=some o:=λo=>by
   rw[<- hyb];simp[hlt]
  obtain⟨u,r1,r2⟩:=bC hE hF hkd hks hk w es 0 f hf (λe he=>(a3 e he).2.1);rw[<- a2]at r1;have r1':(Instr.findKey q.1 (J β k) arr.toList).run E.P w = .ok u w:=by rw[JE (yE hE hkd),r1]
  have hck:=run_checkKey hE (w:=w) (b:=false) hkd hks hk;have Q:=wM hE hks;unfold Instr.mapUpdate;rw[show J β (.map r) = .map (some (β.blk r)) from rfl];simp only[Lg,zr hE hd,Li,MapKept.run_getObj_map a1',hck,r1'];unfold Nb
  cases f with
  | none=>
   rw[show u=none from r2,zn];have z:=MapKept.run_setObj_map (P:=E.P) (w:=w) (.map (arr.push { key:=J β k,val:=J β v,born:=c }) (c+1)) a1';refine⟨_,z,?_⟩;refine hR.KX h60 hb hy (ht _) ⟨_,hat _,?_,?_⟩
   .rw[toList_push,a2,zZ,Az];rfl
   .intro e he;rw[zZ]at he;rcases LJ.1 he with he|he
    .exact a3 e he
    .rw[Lu.1 he];exact⟨hv,hk,Q⟩
  | some val=>
   obtain⟨j,e,q1,q2,q3,q4,q5⟩:=r2;rw[q4,ze]
   have hej:arr[0+j]?=some (QW β e):=by
    rw[Lz,<- LV,a2,Lw,q1];rfl
   have hsame:Instr.sameBits 10000 (QW β e).key (J β k)=true:=by
    show Instr.sameBits 10000 (J β e.1) (J β k)=true;rw[q2];exact nD β Q
   have z:=MapKept.run_setObj_map (P:=E.P) (w:=w) (.map (arr.modify (0+j) λe=>{ e with key:=J β k,val:=J β v }) c) a1';refine⟨{ w with heap:=w.heap.setIfInBounds (β.blk r) (.map (arr.modify (0+j) λe=>{ e with key:=J β k,val:=J β v }) c) },?_,?_⟩
   .simp only[Lg,hej,Ac,LW,Instr.keyThatStays,hsame,if_true,Ln,Li];exact z
   refine hR.KX h60 hb hy (ht _) ⟨_,hat _,?_,?_⟩
   .have hlk:qF k e.1=true:=by rw[q2];exact VC Q
    rw[fu q1 hlk q5];apply AF;intro n;rw[LV,AD,Lz,Lw,List.getElem?_set];by_cases hn:j=n
    .subst hn;have:j<es.length:=(LL.1 q1).1;rw[Lz]at hej;simp[hej,this,QW,q2]
    .rw[O hn,O hn,<- LV,a2,Lw]
   .intro e' T;have hlk:qF k e.1=true:=by rw[q2];exact VC Q
    rw[fu q1 hlk q5]at T;rcases List.mem_or_eq_of_mem_set T with T|rfl
    .exact a3 e' T
    .exact⟨hv,(a3 e (LX q1)).2⟩
end
end
section
variable[Unk]
def YF(E:Env)(β:Inj):Prop:=∀fn q,E.alts.get fn=some q->∀(i:Nat) l,q.2[i]?=some l->∃alt∈l,∀f∈alt,zu E.P E.tabs β f
def YF.mono{E:Env}(l:β.le β')(h:YF E β):YF E β':=λfn q hq i x hx=>by
 obtain⟨alt,h1,h2⟩:=h fn q hq i x hx;exact⟨alt,h1,λf b=>(h2 f b).mono l⟩
def Vv{E:Env}(h:E.alts = .nil):YF E β:=λfn q hq=>by rw[h,M.get_nil]at hq;cases hq
structure YE(E:Env)(β:Inj)(H:Heap):Prop where
 at_:∀g,g<100->β g=some (Unk.place g)
 next:100<=H.next
 facts:zJ E β
 tabs:∀p∈E.tabs,p.1<100/\H.blk.get p.1=some p.2
 alts:YF E β
def YE.ext{E:Env}(h:YE E β H)(hb:∀id x,β id=some x->id<H.next)(e:Ext β H w β' H' w'):YE E β' H' where
 at_:=λg b=>by rw[e.old g (LK b h.next)];exact h.at_ g b
 next:=Lj h.next e.next
 facts:=h.facts.mono (e.le hb)
 tabs:=λp hp=>⟨(h.tabs p hp).1,(e.ro p.1 (h.tabs p hp).1).trans (h.tabs p hp).2⟩
 alts:=h.alts.mono (e.le hb)
def pQ(P:Ef)(β:Inj)(H:Heap)(w:Ea)(m:Sem Next)(v:G)(H':Heap):Prop:=
 ∃β' w' nx,m.run P w = .ok nx w'/\(nx = .value (J β' v)\/(nx = .skip/\v=jo))/\WF β' v/\Rel P β' H' w'/\Ext β H w β' H' w'
def Sim.next{m:Sem Value}(h:Sim P β H w m v H'):pQ P β H w (do pure (.value (<- m))) v H':=by
 obtain⟨β',w',h1,h2,h3,b⟩:=h;refine⟨β',w',_,?_,.inl rfl,h2,h3,b⟩;simp only[Lg,h1,Li,Ln]
def qk.next{m:Sem Value}(hR:Rel P β H w)(h:qk P β w m v):pQ P β H w (do pure (.value (<- m))) v H:=(h.sim hR).next
def pQ.skip{m:Sem Unit}(h1:m.run P w = .ok () w')(h2:Rel P β' H' w')(h3:Ext β H w β' H' w'):pQ P β H w (do m;pure .skip) jo H':=by
 refine⟨β',w',.skip,?_,.inr ⟨rfl,rfl⟩,Oc,h2,h3⟩;simp only[Lg,h1,Li,Ln]
def jc{x:Option G}(h:Ql H x=some (v,H')):x=some v/\H'=H:=by
 replace h:=D h;obtain⟨a,ha,h⟩:=h;cases h;exact⟨ha,rfl⟩
def Jc{c β:Type}{l:List β}{r:Option c}{a:c}(h:l1 l r=some a):l=[]/\r=some a:=by
 cases l with
 | nil=>exact⟨rfl,h⟩
 | cons b l=>cases h
section
variable{E:Env}(hE:yF E)
include hE
theorem ik(hR:Rel E.P β H w){b:Builtin}{l:Array TypeId}{args:List G}(h:U8 E H b l.toList args=some (v,H'))(hx:WFs β args)(hF:zJ E β)
  (ty:Eg) (cs:Array Bool) (as:Eh) (has:as.toList=K β args):pQ E.P β H w (builtin b l ty cs as) v H':=by
 have j:as=(K β args).toArray:=by rw[<- has]
 subst j;unfold U8 at h
 cases args with
 | nil=>cases h
 | cons x r=>
  rw[ZY]at h;obtain⟨tl⟩:=l
  cases tl with
  | nil=>cases h
  | cons t us=>
   simp only[ZY]at h;obtain⟨d,i⟩:=hx;cases b<;>try(cases h;done)
   case append=>
    cases r with
    | nil=>cases h
    | cons y q=>
     cases us with
     | nil=>cases h
     | cons u vs=>
      simp only[ZY]at h;replace h:=Jc h;obtain⟨c,h⟩:=h;subst c;replace h:=Jc h;obtain⟨c,h⟩:=h;subst c;exact(iW hE hF hR h d i.1 ty).next
   case cap=>
    replace h:=jc h;obtain⟨h,g⟩:=h;subst g;exact(Bl hE h d _ ty rfl _ rfl).next hR
   case clear=>
    replace h:=Jc h;obtain⟨c,h⟩:=h;subst c;exact(pL hE hR h d _ rfl ty).next
   case copy=>
    cases r with
    | nil=>cases h
    | cons y q=>
     simp only[ZY]at h;replace h:=Jc h;obtain⟨c,h⟩:=h;subst c;exact(uU hE hR h d i.1 _ rfl ty).next
   case len=>
    replace h:=jc h;obtain⟨h,g⟩:=h;subst g;exact(Bk hE hF hR h d _ ty rfl _ rfl).next hR
   case max=>
    replace h:=jc h;obtain⟨h,g⟩:=h;subst g
    cases hm:zeH r x with
    | some q=>
     rw[hm,ze]at h;cases h
     exact(Bh (w:=w) r x _ hm d i).next hR
    | none=>
     rw[hm,zn]at h
     cases r with
     | nil=>cases h
     | cons y q=>
      replace h:=Jc h;obtain⟨c,h⟩:=h;subst c;obtain⟨f,hf,e⟩:=qD h;obtain rfl:=Tt e;obtain⟨h1,h2,h3,k,m,n,e1,e2,e3⟩:=hF _ hf;have Q:qk E.P β w ((K β [y]).foldlM Builtin.max2 (J β x)) v:=⟨by simp[K,e1,e2,e3,Builtin.max2],h3⟩
      exact Q.next hR
   case min=>
    replace h:=jc h;obtain⟨h,g⟩:=h;subst g
    cases hm:zeG r x with
    | some q=>
     rw[hm,ze]at h;cases h
     exact(Bg (w:=w) r x _ hm d i).next hR
    | none=>
     rw[hm,zn]at h
     cases r with
     | nil=>cases h
     | cons y q=>
      replace h:=Jc h;obtain⟨c,h⟩:=h;subst c;obtain⟨f,hf,e⟩:=qD h;obtain rfl:=Ts e;obtain⟨h1,h2,h3,k,m,n,e1,e2,e3⟩:=hF _ hf;have Q:qk E.P β w ((K β [y]).foldlM Builtin.min2 (J β x)) v:=⟨by simp[K,e1,e2,e3,Builtin.min2],h3⟩
      exact Q.next hR
   case unsafeSliceData=>
    replace h:=Jc h;obtain⟨c,h⟩:=h;subst c;exact(bJ hR h d _ ty).next
   case unsafeString=>
    cases r with
    | nil=>cases h
    | cons y q=>
     cases us with
     | nil=>cases h
     | cons u vs=>
      simp only[ZY]at h;replace h:=Jc h;obtain⟨c,h⟩:=h;subst c;replace h:=Jc h;obtain⟨c,h⟩:=h;subst c;replace h:=D h;obtain⟨p,hp,h⟩:=h;obtain rfl:=jx hp;replace h:=zh h;obtain⟨h1,h⟩:=h;have:=Zp h1;replace h:=jq h;obtain⟨n,hn,h⟩:=h;replace h:=zh h;obtain⟨h2,h⟩:=h;rw[zK,Lk]at h2;have z:=(iX hE hR (it:=u) (ty:=ty) h d I).next;have hcv:J β (.int p.1 p.2) = .int .i64 n:=by simp only[J];rw[hn,Zp h1];rfl
      show pQ E.P β H w (do pure (.value (<- Builtin.unsafeString_ #[t,u] ty (K β [x,.int p.1 p.2]).toArray))) v H';simp only[K,hcv];exact z
def WS(T:M G)(β:Inj)(ρ:Operand->Value)(l:Array Operand):Prop:=∀x∈l,∀v,ev T x=some v->ρ x=J β v/\WF β v
omit hE in
theorem xn{T:M G}{ρ:Operand->Value}{o:Option Operand}{v:Option G}(h:evO T o=some v)(hρ:∀x∈o,∀v,ev T x=some v->ρ x=J β v/\WF β v) :
  o.map ρ=v.map (J β):=by
 cases o with
 | none=>cases h;rfl
 | some x=>
  have h:(bnd (ev T x) λv=>some (some v))=some v:=h;replace h:=D h;obtain⟨a,ha,h⟩:=h;cases h;rw[Ac,(hρ x rfl a ha).1];rfl
theorem iM(hR:Rel E.P β H w){r:Option Value}(d:∀v∈r,(∃k n,v = .int k n)/\∃q:TypeId×TypeId,E.desc t=some (.map q.1 q.2)) :
  Sim E.P β H w (Instr.makeMap t r) (.map H.next) ⟨H.blk.set H.next (.map [] 0),H.next+1⟩:=by
 obtain⟨c,b⟩:=hR.add (.map [] 0) (.map #[] 0) 0 ⟨#[],yN _ _,rfl,by intro e he;cases he⟩;refine⟨β.put H.next (w.heap.size,0,0),push w (.map #[] 0),?_,by simp[WF,Inj.zS],c,b⟩;unfold Instr.makeMap;have hc:J (β.put H.next (w.heap.size,0,0)) (.map H.next) = .map (some w.heap.size):=by simp[J,Inj.blk,Inj.zS]
 rw[hc]
 cases r with
 | none=>simp only[Lg,run_newObj,Ln,Li];rfl
 | some v=>
  obtain⟨⟨k,n,rfl⟩,q,hq⟩:=d v rfl;simp only[Lg,zr hE hq,Li,Go.asInt,asIntOf,run_newObj,Ln];rfl
theorem decode_ascii{s:Eb}{p c:Nat}(h:s[p]?=some c)(hc:c<128):Utf8.decode (str s) p=(c,1):=by
 have _:=hE;have hp:=(LL.1 h).1
 have b:((str s).get! p).toNat=c:=by
  have e:(str s).get! p=UInt8.ofNat c:=by
   show(str s).data[p]! = _
   have:(str s).data[p]?=some (UInt8.ofNat c):=by
    rw[<- LV];simp[X1,h]
   rw[getElem!_def,this]
  rw[e];simp;omega
 unfold Utf8.decode;simp only[Nat.add_zero,b];rw[Y I]
theorem ss(hR:Rel E.P β H w){s:Eb}(hd:E.desc t=some .string)(hs:∀b∈s,b<256) :
  Sim E.P β H w (Instr.range t (.string (str s))) (.ptr H.next 0) ⟨H.blk.set H.next (.siter s 0),H.next+1⟩:=by
 obtain⟨d,c⟩:=hR.add (.siter s 0) (.stringIter (str s) 0) 0 ⟨yN _ _,rfl,hs⟩;refine⟨β.put H.next (w.heap.size,0,0),push w (.stringIter (str s) 0),?_,by simp[WF,Inj.zS],d,c⟩;unfold Instr.range;have hc:J (β.put H.next (w.heap.size,0,0)) (.ptr H.next 0) = .pointer (some ⟨w.heap.size,0,none⟩):=by simp[J,Inj.addr,Inj.blk,Inj.sh,Inj.zS]
 rw[hc];simp only[Lg,zr hE hd,Li,run_newObj,Ln];rfl
theorem wD(hR:Rel E.P β H w){s:Eb}{p:Nat}(hb:H.blk.get b=some (.siter s p))(h60:100<=b)(hw:(β b).isSome)(h:fJ H b s p=some (v,H'))(ty:Eg) :
  Sim E.P β H w (Instr.next (J β (.ptr b 0)) true ty) v H':=by
 obtain⟨y,j⟩:=LM.1 hw;obtain⟨m,n,Q⟩:=hR.blk b _ y hb j;have u:β.blk b=y.1:=by simp[Inj.blk,j]
 have hc:J β (.ptr b 0) = .pointer (some ⟨y.1,0,none⟩):=by simp[J,Inj.addr,Inj.blk,Inj.sh,j,n]
 have d:(getObj y.1).run E.P w = .ok (.stringIter (str s) p) w:=by simp[getObj,Sem.run,m]
 have f:∀o,(setObj y.1 o).run E.P w = .ok () { w with heap:=w.heap.setIfInBounds y.1 o }:=λo=>by simp[setObj,Sem.run,m]
 have k:=(LO.1 m).1;unfold fJ at h;rw[yY]at h;unfold Instr.next;rw[hc]
 cases hn:s[p]? with
 | none=>
  rw[hn,zn]at h;cases h;have l:¬p<(str s).size:=by rw[qA];exact Nat.not_lt.2 (List.getElem?_eq_none_iff.1 hn)
  refine qk.sim ⟨?_,by simp[WF,WFs]⟩ hR;simp only[Lg,d,Li];rw[O l]
  simp[J,K]
 | some c=>
  rw[hn,ze]at h;replace h:=zh h;obtain⟨g,h⟩:=h;rw[zW,Lk]at g;simp only[qg]at h;cases h;have hl:p<(str s).size:=by rw[qA];exact(LL.1 hn).1
  have z:J1 y.1 w { w with heap:=w.heap.setIfInBounds y.1 (.stringIter (str s) (p+1)) }:=
   ⟨λi hi=>by simp only[AN];rw[O (λe=>hi e.symm)],Oc,rfl,rfl,rfl⟩
  obtain⟨t,r⟩:=hR.KX (b':=.siter s (p+1)) h60 hb j z ⟨by simp[k],n,Q⟩;refine⟨β,_,?_,by simp[WF,WFs],t,r⟩;simp only[Lg,d,Li];rw[Y hl,decode_ascii hE hn g];simp only[Lg,f,Li,Ln];simp[J,K,goInt]
theorem m7(hR:Rel E.P β H w)(hF:zJ E β){rec:Rec}{T:M G}{o:Oper}(h:aop o.op E rec T H=some (v,H')){ρ:Operand->Value}
  (hρ:WS T β ρ o.op.operands) (hc:∀c,o.op = .call c->∃b,c.callee = .builtin b):pQ E.P β H w (execOp ρ o) v H':=by
 obtain⟨dst,op,ty,pos,af,gd⟩:=o;simp only at h hρ hc;unfold execOp;cases op
 case move x=>
  replace h:=jc h;obtain⟨h,j⟩:=h;subst j;obtain⟨h1,h2⟩:=hρ x (by simp[Op.operands]) v h;exact⟨β,w,.value (ρ x),Oc,.inl (by rw[h1]),h2,hR,.refl _ _ _ hR.bnd⟩
 case assign x=>
  replace h:=jc h;obtain⟨h,j⟩:=h;subst j;obtain⟨h1,h2⟩:=hρ x (by simp[Op.operands]) v h;exact⟨β,w,.value (ρ x),Oc,.inl (by rw[h1]),h2,hR,.refl _ _ _ hR.bnd⟩
 case pick c a b=>
  replace h:=D h;obtain⟨u,hu,h⟩:=h;replace h:=D h;obtain⟨q,hq,h⟩:=h;obtain rfl:=QF hq;obtain⟨g1,g2⟩:=hρ c (by simp[Op.operands]) _ hu
  cases q with
  | true=>
   rw[qX]at h;replace h:=jc h;obtain⟨h,j⟩:=h;subst j;obtain⟨h1,h2⟩:=hρ a (by simp[Op.operands]) v h;refine⟨β,w,.value (ρ a),?_,.inl (by rw[h1]),h2,hR,.refl _ _ _ hR.bnd⟩
   simp[g1,J,Go.asBool]
  | false=>
   rw[yy]at h;replace h:=jc h;obtain⟨h,j⟩:=h;subst j;obtain⟨h1,h2⟩:=hρ b (by simp[Op.operands]) v h;refine⟨β,w,.value (ρ b),?_,.inl (by rw[h1]),h2,hR,.refl _ _ _ hR.bnd⟩;simp[g1,J,Go.asBool]
 case alloc t=>
  replace h:=D h;obtain⟨z,hz,h⟩:=h;have h:=ks h;cases h;exact(uO hE hR hz).next
 case box t x=>
  replace h:=D h;obtain⟨u,hu,h⟩:=h;replace h:=zh h;obtain⟨_,h⟩:=h;have h:=ks h;cases h;obtain⟨g1,g2⟩:=hρ x (by simp[Op.operands]) _ hu;simp only[g1];exact(Hj hR t g2).next
 case build t parts=>
  replace h:=D h;obtain⟨z,hz,h⟩:=h;replace h:=D h;obtain⟨ps,hps,h⟩:=h;replace h:=D h;obtain⟨d,hd,h⟩:=h;replace h:=D h;obtain⟨l,hl,h⟩:=h;cases h;obtain⟨g1,g2⟩:=Kj (ρ:=ρ) parts.toList ps hps (λx hx v hv=>hρ x (by simpa[Op.operands] using hx) v hv);exact(uB hE hz hd hl g2 _ (by rw[Array.toList_map];exact g1)).next hR
 case buildSlice t len parts=>
  replace h:=D h;obtain⟨d,hd,h⟩:=h;replace h:=D h;obtain⟨e,he,h⟩:=h;obtain rfl:=j4 he;replace h:=D h;obtain⟨ps,hps,h⟩:=h;replace h:=D h;obtain⟨s,hs,h⟩:=h;replace h:=D h;obtain⟨z,hz,h⟩:=h;replace h:=zh h;obtain⟨hb,h⟩:=h;rw[zl,Le,zK,Lk,zA,Ll,jV]at hb;replace h:=D h;obtain⟨l,hl,h⟩:=h;replace h:=zh h;obtain⟨_,h⟩:=h;have h:=ks h;cases h;obtain⟨g1,g2⟩:=Kj (ρ:=ρ) parts.toList ps hps (λx hx v hv=>hρ x (by simpa[Op.operands] using hx) v hv);exact(bA hE hR hd hs hz hb.1 hb.2 hl g2 _ (by rw[Array.toList_map];exact g1)).next
 case insert t m k x=>
  replace h:=D h;obtain⟨m',hm,h⟩:=h;replace h:=D h;obtain⟨k',hk,h⟩:=h;replace h:=D h;obtain⟨x',hx,h⟩:=h;replace h:=D h;obtain⟨H1,h1,h⟩:=h;cases h;obtain⟨a1,Q⟩:=hρ m (by simp[Op.operands]) _ hm;obtain⟨b1,b2⟩:=hρ k (by simp[Op.operands]) _ hk;obtain⟨c1,c2⟩:=hρ x (by simp[Op.operands]) _ hx;obtain⟨w',r1,r2,r3⟩:=Y7 hE hF hR h1 Q b2 c2;simp only[a1,b1,c1];exact .skip r1 r2 r3
 case mapUpdate t m k x=>
  replace h:=D h;obtain⟨m',hm,h⟩:=h;replace h:=D h;obtain⟨k',hk,h⟩:=h;replace h:=D h;obtain⟨x',hx,h⟩:=h;replace h:=D h;obtain⟨H1,h1,h⟩:=h;cases h;obtain⟨a1,Q⟩:=hρ m (by simp[Op.operands]) _ hm;obtain⟨b1,b2⟩:=hρ k (by simp[Op.operands]) _ hk;obtain⟨c1,c2⟩:=hρ x (by simp[Op.operands]) _ hx;obtain⟨w',r1,r2,r3⟩:=Y7 hE hF hR h1 Q b2 c2;simp only[a1,b1,c1];exact .skip r1 r2 r3
 case load t a=>
  replace h:=D h;obtain⟨u,hu,h⟩:=h;replace h:=D h;obtain⟨p,hp,h⟩:=h;obtain rfl:=yU hp;replace h:=jc h;obtain⟨h,j⟩:=h;subst j;obtain⟨g1,g2⟩:=hρ a (by simp[Op.operands]) _ hu;obtain⟨l1,l2⟩:=hR.loadVar hE h g2;refine qk.next hR ⟨?_,l1⟩;simp only[g1,J,Instr.loadAt,Instr.sureAddr,Lg,Ln,Li,l2]
 case store t a x=>
  replace h:=D h;obtain⟨u,hu,h⟩:=h;replace h:=D h;obtain⟨p,hp,h⟩:=h;obtain rfl:=yU hp;replace h:=D h;obtain⟨y,hy,h⟩:=h;replace h:=D h;obtain⟨H1,h1,h⟩:=h;cases h;obtain⟨g1,g2⟩:=hρ a (by simp[Op.operands]) _ hu;obtain⟨k1,k2⟩:=hρ x (by simp[Op.operands]) _ hy;obtain⟨w',r1,r2,r3⟩:=hR.storeVar hE h1 g2 k2;refine .skip ?_ r2 r3;simp only[g1,k1,J,Instr.storeAt,Instr.sureAddr,Lg,Ln,Li,r1]
 case nilCheck x=>
  replace h:=D h;obtain⟨u,hu,h⟩:=h;replace h:=Za h;obtain⟨h1,h⟩:=h;cases h;obtain⟨g1,g2⟩:=hρ x (by simp[Op.operands]) _ hu;refine⟨β,w,.value (J β v),?_,.inl rfl,g2,hR,.refl _ _ _ hR.bnd⟩;simp only[g1];cases v<;>first|(cases h1;done)|simp[J]
 case binOp op xt x y yt=>
  replace h:=D h;obtain⟨a,ha,h⟩:=h;replace h:=D h;obtain⟨b,hb,h⟩:=h;replace h:=jc h;obtain⟨h,j⟩:=h;subst j;obtain⟨a1,Q⟩:=hρ x (by simp[Op.operands]) _ ha;obtain⟨b1,b2⟩:=hρ y (by simp[Op.operands]) _ hb;simp only[a1,b1];exact qk.next hR (Bo hE hF h Q b2)
 case unOp op xt x=>
  replace h:=D h;obtain⟨a,ha,h⟩:=h;replace h:=jc h;obtain⟨h,j⟩:=h;subst j;obtain⟨a1,Q⟩:=hρ x (by simp[Op.operands]) _ ha;simp only[a1];rw[zo]at h;split at h
  .obtain⟨f,hf,e⟩:=qD h;obtain⟨_,u2,u3⟩:=Ng e (hF _ hf);exact qk.next hR ⟨u3 _,u2⟩
  .exact qk.next hR (UX h)
 case convert s d x=>
  replace h:=D h;obtain⟨a,ha,h⟩:=h;obtain⟨a1,Q⟩:=hρ x (by simp[Op.operands]) _ ha;simp only[a1];rw[zo]at h;split at h
  .exact(iF hE hF hR h Q).next
  .exact(ig hE hF hR h Q).next
 case makeInterface t x=>
  replace h:=D h;obtain⟨d,hd,h⟩:=h;replace h:=Za h;obtain⟨hi,h⟩:=h;replace h:=D h;obtain⟨a,ha,h⟩:=h;cases h;obtain⟨a1,Q⟩:=hρ x (by simp[Op.operands]) _ ha;refine qk.next hR ⟨?_,Q⟩;simp only[a1,Instr.makeInterface,Lg,zr hE hd,Li];cases d<;>first|(cases hi;done)|simp[J]
 case makeFunc f fi ca=>
  replace h:=D h;obtain⟨g,hg,h⟩:=h;replace h:=D h;obtain⟨l,hl,h⟩:=h;replace h:=D h;obtain⟨m,hm,h⟩:=h;cases h;obtain⟨a1,Q⟩:=oM (ρ:=ρ) fi.toList l hl (λx hx v hv=>hρ x (by simp only[Op.operands,Array.mem_append];exact .inl (by simpa using hx)) v hv);obtain⟨b1,b2⟩:=oM (ρ:=ρ) ca.toList m hm (λx hx v hv=>hρ x (by simp only[Op.operands,Array.mem_append];exact .inr (by simpa using hx)) v hv);have hf:f = .func g:=by cases f<;>cases hg;rfl
  subst hf;refine qk.next hR ⟨?_,Q,b2⟩;simp only[Instr.makeFunc,Ln,J];rw[<- a1,<- b1,<- Array.toList_map,<- Array.toList_map]
 case range t x=>
  replace h:=D h;obtain⟨d,hd,h⟩:=h;replace h:=zh h;obtain⟨hds,h⟩:=h;obtain rfl:=jB hds;replace h:=D h;obtain⟨u,hu,h⟩:=h;replace h:=D h;obtain⟨s,hs,h⟩:=h;obtain rfl:=qU hs;simp only[qg]at h;cases h;obtain⟨a1,Q⟩:=hρ x (by simp[Op.operands]) _ hu;simp only[a1];exact(ss hE hR hd Q).next
 case next it isS=>
  replace h:=zh h;obtain⟨his,h⟩:=h;subst his;replace h:=D h;obtain⟨u,hu,h⟩:=h;replace h:=D h;obtain⟨p,hp,h⟩:=h;obtain rfl:=yU hp;obtain⟨b,off⟩:=p
  cases off with
  | succ n=>rw[Vc]at h;cases h
  | zero=>
   rw[aS]at h;replace h:=D h;obtain⟨bl,hbl,h⟩:=h;replace h:=D h;obtain⟨q,hq,h⟩:=h;have:bl = .siter q.1 q.2:=by cases bl<;>cases hq;rfl
   subst this;replace h:=zh h;obtain⟨h60,h⟩:=h;rw[zK,Lk]at h60;obtain⟨a1,Q⟩:=hρ it (by simp[Op.operands]) _ hu;simp only[a1];exact(wD hE hR hbl h60 Q h ty).next
 case makeMap t r=>
  replace h:=D h;obtain⟨_,h1,h⟩:=h;simp only[qg]at h;cases h;refine(iM hE hR λy hy=>?_).next
  cases r with
  | none=>cases hy
  | some x=>
   rw[Ac]at hy;cases hy;rw[ze]at h1;replace h1:=D h1;obtain⟨a,ha,h1⟩:=h1;replace h1:=D h1;obtain⟨p,hp,h1⟩:=h1;obtain rfl:=jx hp;replace h1:=D h1;obtain⟨d,hd,h1⟩:=h1;replace h1:=D h1;obtain⟨q,hq,h1⟩:=h1;obtain rfl:=dJ hq;exact⟨⟨p.1,p.2,(hρ x (by simp[Op.operands]) _ ha).1⟩,q,hd⟩
 case makeSlice t l c=>
  replace h:=D h;obtain⟨d,hd,h⟩:=h;replace h:=D h;obtain⟨e,he,h⟩:=h;obtain rfl:=j4 he;replace h:=D h;obtain⟨a,ha,h⟩:=h;replace h:=D h;obtain⟨b,hb,h⟩:=h;replace h:=D h;obtain⟨p,hp,h⟩:=h;obtain rfl:=jx hp;replace h:=zh h;obtain⟨hi,h⟩:=h;replace h:=jq h;obtain⟨n,hn,h⟩:=h;replace h:=D h;obtain⟨q,hq,h⟩:=h;obtain rfl:=jx hq;replace h:=zh h;obtain⟨hj,h⟩:=h;replace h:=jq h;obtain⟨m,hm,h⟩:=h;obtain⟨a1,Q⟩:=hρ l (by simp[Op.operands]) _ ha;obtain⟨b1,b2⟩:=hρ c (by simp[Op.operands]) _ hb;simp only[a1,b1,J,Zp hi,Zp hj,hn,hm];exact(iL hE hR hd h).next
 case slice t x lo hi mx=>
  replace h:=D h;obtain⟨a,ha,h⟩:=h;replace h:=D h;obtain⟨l,hl,h⟩:=h;replace h:=D h;obtain⟨u,hu,h⟩:=h;replace h:=D h;obtain⟨m,hm,h⟩:=h;replace h:=jc h;obtain⟨h,j⟩:=h;subst j;obtain⟨a1,Q⟩:=hρ x (by simp[Op.operands]) _ ha;have b1:=xn (ρ:=ρ) (β:=β) hl (λy hy v hv=>hρ y (by simp only[Op.operands,Array.mem_append];exact .inl (.inl (.inr (by simpa using hy)))) v hv);have c1:=xn (ρ:=ρ) (β:=β) hu (λy hy v hv=>hρ y (by simp only[Op.operands,Array.mem_append];exact .inl (.inr (by simpa using hy))) v hv);have d1:=xn (ρ:=ρ) (β:=β) hm (λy hy v hv=>hρ y (by simp only[Op.operands,Array.mem_append];exact .inr (by simpa using hy)) v hv);simp only[a1,b1,c1,d1];exact qk.next hR (py hE hF h Q)
 case fieldAddr s x f=>
  replace h:=D h;obtain⟨d,hd,h⟩:=h;replace h:=D h;obtain⟨fs,hfs,h⟩:=h;replace h:=D h;obtain⟨fl,hfl,h⟩:=h;replace h:=D h;obtain⟨a,ha,h⟩:=h;replace h:=D h;obtain⟨p,hp,h⟩:=h;replace h:=jc h;obtain⟨h,j⟩:=h;subst j;obtain⟨a1,Q⟩:=hρ x (by simp[Op.operands]) _ ha;simp only[a1];exact qk.next hR (iR hE hd hfs hfl hp h Q)
 case field t x f=>
  replace h:=D h;obtain⟨d,hd,h⟩:=h;replace h:=D h;obtain⟨fs,hfs,h⟩:=h;replace h:=D h;obtain⟨fl,hfl,h⟩:=h;replace h:=D h;obtain⟨a,ha,h⟩:=h;replace h:=D h;obtain⟨p,hp,h⟩:=h;replace h:=jc h;obtain⟨h,j⟩:=h;subst j;obtain⟨a1,Q⟩:=hρ x (by simp[Op.operands]) _ ha;simp only[a1];exact qk.next hR (pK hE hd hfs hfl hp h Q)
 case indexAddr t x i=>
  replace h:=D h;obtain⟨a,ha,h⟩:=h;replace h:=D h;obtain⟨b,hb,h⟩:=h;replace h:=jc h;obtain⟨h,j⟩:=h;subst j;obtain⟨a1,Q⟩:=hρ x (by simp[Op.operands]) _ ha;obtain⟨b1,b2⟩:=hρ i (by simp[Op.operands]) _ hb;simp only[a1,b1];exact qk.next hR (bH hE hF h Q)
 case index t x i=>
  replace h:=D h;obtain⟨a,ha,h⟩:=h;replace h:=D h;obtain⟨b,hb,h⟩:=h;replace h:=jc h;obtain⟨h,j⟩:=h;subst j;obtain⟨a1,Q⟩:=hρ x (by simp[Op.operands]) _ ha;obtain⟨b1,b2⟩:=hρ i (by simp[Op.operands]) _ hb;simp only[a1,b1];rw[zo]at h;split at h
  .exact qk.next hR (eu hE hF h)
  .exact qk.next hR (pI hE h Q)
 case lookup t x k ok=>
  replace h:=D h;obtain⟨a,ha,h⟩:=h;replace h:=D h;obtain⟨b,hb,h⟩:=h;replace h:=jc h;obtain⟨h,j⟩:=h;subst j;obtain⟨a1,Q⟩:=hρ x (by simp[Op.operands]) _ ha;obtain⟨b1,b2⟩:=hρ k (by simp[Op.operands]) _ hb;simp only[a1,b1];exact qk.next hR (iV hE hF hR h Q b2)
 case typeAssert x xt at_ ok=>
  replace h:=D h;obtain⟨d,hd,h⟩:=h;replace h:=Za h;obtain⟨hi,h⟩:=h;replace h:=D h;obtain⟨a,ha,h⟩:=h;replace h:=D h;obtain⟨p,hp,h⟩:=h;obtain rfl:=gY hp;replace h:=zh h;obtain⟨ht,h⟩:=h;rw[zA,Ll]at ht;cases h;obtain⟨a1,Q⟩:=hρ x (by simp[Op.operands]) _ ha;have Q:WF β p.2:=Q;refine qk.next hR ⟨?_,?_⟩
  .simp only[a1,Instr.typeAssert,Lg,zr hE hd,Li,J,ht];cases d<;>first|(cases hi;done)|(cases ok<;>simp[Wg,J,K])
  .cases ok with
   | false=>exact Q
   | true=>exact⟨Q,trivial,trivial⟩
 case extract x i=>
  replace h:=D h;obtain⟨a,ha,h⟩:=h;replace h:=D h;obtain⟨l,hl,h⟩:=h;replace h:=jc h;obtain⟨h,j⟩:=h;subst j;obtain⟨a1,Q⟩:=hρ x (by simp[Op.operands]) _ ha;simp only[a1];exact qk.next hR (ie hl h Q)
 case call c=>
  obtain⟨b,hb⟩:=hc c rfl;obtain⟨ce,as,ts⟩:=c;simp only at hb;subst hb;replace h:=D h;obtain⟨vs,hvs,h⟩:=h;obtain⟨g1,g2⟩:=oM (ρ:=ρ) as.toList vs hvs (λx hx v hv=>hρ x (by simpa[Op.operands,Call.operands] using hx) v hv);obtain⟨β',w',nx,s1,s2⟩:=ik hE hR h g2 hF ty (as.map λ|.const _=>true|_=>false) (as.map ρ) (by rw[Array.toList_map];exact g1);refine⟨β',w',nx,?_,s2⟩;simp only[resolve,Lg,Ln,Li,invoke];exact s1
 case ready=>cases h
 case waits=>cases h
 case sliceToArrayPointer=>cases h
 case makeChan=>cases h
 case mapEntry=>cases h
 case entryStore=>cases h
 case entry=>cases h
 case go=>cases h
 case defer=>cases h
 case panic=>cases h
 case send=>cases h
 case recv=>cases h
 case select=>cases h
end
end
end Go.AEv
