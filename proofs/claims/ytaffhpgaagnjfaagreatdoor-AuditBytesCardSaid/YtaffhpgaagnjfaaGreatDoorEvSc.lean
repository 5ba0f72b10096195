/- A verified evaluator of Go code, and its soundness (EvSc). Conditions: those of each theorem. -/
import Derived.Test.YtaffhpgaagnjfaaGreatDoorEvSb
import GoSem.Extern.Table
import Derived.Laws.BytesString
import Derived.Lib.UnsafeStr
import Derived.MapKept
open List Nat Option Array Int
set_option linter.unusedSectionVars false
namespace Go.AEv
section
variable[Unk]
def Sim(P:Program)(β:Inj)(H:Heap)(w:World)(m:Sem Value)(v:zb)(H':Heap):Prop:=
 ∃β' w',m.run P w = .ok (zc β' v) w'/\WF β' v/\Rel P β' H' w'/\Ext β H w β' H' w'
theorem qh.sim{P:Program}{β:Inj}{H:Heap}{w:World}{m:Sem Value}{v:zb}(h:qh P β w m v)(hR:Rel P β H w):Sim P β H w m v H:=
 ⟨β,w,h.1,h.2,hR,.refl _ _ _ hR.bnd⟩
theorem j9.ofList{P:Program}{β:Inj}{t:TypeId}{l:List zb}(hl:WFs β l)(extra:List Value)(e:Nat)(he:e*qX P t<=extra.length)(fz:Nat×Nat)
  (hf:∀i,i<l.length+extra.length->¬(fz.1<=i/\i<fz.2)) :
  j9 P β t (qS l 0) (Tr.ofList l) 0 e (zf β l++extra).toArray fz where
 size:=by simp[zx];omega
 cell:=fun i v h=>by
  rw[Tr.qc]at h;refine⟨(zV _ _).1 hl v (List.mem_of_getElem? h),?_⟩;have a:=(List.getElem?_eq_some_iff.1 h).1;rw[Nat.zero_add,getElem?_toArray,List.getElem?_append_left (by rw[zx];simpa using a),zx,List.getElem?_map,h];rfl
 thaw:=fun i hi=>hf i (by simpa[zx] using hi)
 al:=Nat.dvd_zero _
theorem Rel.newRow{P:Program}{β:Inj}{H:Heap}{w:World}(hR:Rel P β H w){t:TypeId}{n:Nat}{c:Tr zb}{arr:Array Value}{e:Nat}{fz:Nat×Nat}
  (h:j9 P β t n c 0 e arr fz) :
  Rel P (β.put H.next (w.heap.size,0,e)) ⟨H.blk.set H.next (.cells t n c),H.next+1⟩ (push w (.cells arr t fz)) /\
  Ext β H w (β.put H.next (w.heap.size,0,e)) ⟨H.blk.set H.next (.cells t n c),H.next+1⟩ (push w (.cells arr t fz)):=
 hR.add _ _ e ⟨arr,fz,yo _ _,h.mono (Inj.kX (hR.fresh (Nat.le_refl _)))⟩
theorem yA(β:Inj)(m c e:Nat):(β.put m (c,0,e)).addr m 0=⟨c,0,none⟩:=by simp[Inj.addr,Inj.blk,Inj.sh,Inj.zL]
theorem Um(β:Inj)(m c s e:Nat):(β.put m (c,s,e)).ext m=e:=by simp[Inj.ext,Inj.zL]
theorem Rel.zbz{P:Program}{β:Inj}{H:Heap}{w:World}(hR:Rel P β H w)(t:TypeId){l:List zb}(hl:WFs β l) :
  Rel P (β.put H.next (w.heap.size,0,0)) (Heap.new H t l) (push w (.cells (zf β l).toArray t)) /\
  Ext β H w (β.put H.next (w.heap.size,0,0)) (Heap.new H t l) (push w (.cells (zf β l).toArray t)):=by
 have:=hR.newRow (t:=t) (e:=0) (fz:=(0,0)) (j9.ofList hl [] 0 (by simp) (0,0) (by simp));simp only[append_nil]at this;exact this
theorem jX{H:Heap}{t:TypeId}{l:List zb}{f:Nat->zb}{r:zb×Heap}(h:zkw H t l f=some r):r=(f H.next,Heap.new H t l):=by
 cases h;rfl
section
variable{E:Env}(hE:yg E)
include hE
theorem zjg{β:Inj}{H:Heap}{w:World}(hR:Rel E.P β H w){t:TypeId}{z:zb}(a:E.zero t=some z) :
  Sim E.P β H w (Instr.alloc t true (.tuple #[])) (.ptr H.next 0) (Heap.new H t (zO z)):=by
 obtain⟨g1,b⟩:=kJ hE a β w;obtain⟨h1,h2⟩:=hR.zbz t (jN b);refine⟨_,_,?_,by simp[WF,Inj.zL],h1,h2⟩;unfold Instr.alloc;simp[g1,newVar,newRow,jd,zc,yA];rfl
omit hE in
theorem zoE{P:Program}{β:Inj}{H:Heap}{w:World}(hR:Rel P β H w)(t:TypeId){v:zb}(hv:WF β v) :
  Sim P β H w (Instr.box t (zc β v)) (.ptr H.next 0) (Heap.new H t (zO v)):=by
 obtain⟨h1,h2⟩:=hR.zbz t (jN hv);refine⟨_,_,?_,by simp[WF,Inj.zL],h1,h2⟩;unfold Instr.box;simp[newVar,newRow,jd,zc,yA];rfl
theorem run_places{w:World}:∀(a:List Field),UB E a=true ->
  ∃pl:List (Nat×Nat),(a.mapM fun f=>(do pure (f.offset,<- sizeOf f.type):Sem (Nat×Nat))).run E.P w = .ok pl w/\∀i:Nat,pl[i]?=Xp E a i:=by
 intro a
 induction a with
 | nil=>intro _;exact⟨[],by simp,fun i=>by simp[Xp]⟩
 | cons f a b=>
  intro h;have e:UB E (f::a)=zh (E.size f.type) false fun _=>UB E a:=rfl;rw[e]at h
  cases hs:E.size f.type with
  | none=>rw[hs]at h;cases h
  | some s=>
   rw[hs,zd]at h;obtain⟨pl,h1,h2⟩:=b h;refine⟨(f.offset,s)::pl,?_,fun i=>?_⟩
   .simp only[mapM_cons,Sem.run_bind,qx hE hs,Result.andThen_ok,Sem.run_pure,h1]
   .cases i with
    | zero=>simp[Xp,hs]
    | succ i=>rw[getElem?_cons_succ,h2 i];simp[Xp]
theorem zi6{β:Inj}{w:World}{t:TypeId}{z:zb}{d:TypeDesc}{b:List (Nat×zb)}{l:List zb}(r:E.zero t=some z)(hd:E.desc t=some d)
  (h:zli E d (zO z) b=some l) (hp:∀p∈b,WF β p.2) (parts:Array (Nat×Value)) (hparts:parts.toList=b.map fun p=>(p.1,zc β p.2)) :
  qh E.P β w (Instr.build t parts) (.agg l):=by
 obtain⟨g1,u⟩:=kJ hE r β w;have hw:=jN u;unfold zli at h;unfold qh Instr.build;rw[Sem.run_bind,g1,Result.andThen_ok,Sem.run_bind,zr hE hd,Result.andThen_ok,jd]
 cases h1:ZS d with
 | some y=>
  obtain⟨a,rfl,rfl⟩:=Xv h1;rw[h1,zd,jE]at h;replace h:=zg h;obtain⟨h2,h⟩:=h;obtain⟨k,g,x⟩:=Xo (β:=β) (Xp E a.toList) b (zO z) l h hp hw;obtain⟨pl,o,m⟩:=run_places hE (w:=w) a.toList h2;refine⟨?_,g⟩;have e:(fun i=>pl.toArray[i]?)=Xp E a.toList:=funext fun i=>by simpa using m i
  have c:(a.mapM fun f=>(do pure (f.offset,<- sizeOf f.type):Sem (Nat×Nat))).run E.P w = .ok pl.toArray w:=by
   rw[mapM_eq_mapM_toList];simp only[Sem.run_map,o,Result.andThen_ok]
  simp only[Sem.run_bind,c,Result.andThen_ok,hparts,e,k]
  simp[zc]
 | none=>
  rw[h1,zm]at h;replace h:=ze h;obtain⟨q,hq,h⟩:=h;obtain rfl:=Qo hq;replace h:=ze h;obtain⟨s,hs,h⟩:=h;rw[jE]at h;obtain⟨k,g,x⟩:=Xo (β:=β) (VX s) b (zO z) l h hp hw;refine⟨?_,g⟩;have j:Instr.fill (fun i=>some (i*s,s)) (zf β (zO z)).toArray (b.map fun p=>(p.1,zc β p.2))=some (zf β l).toArray:=k;simp only[Sem.run_bind,qx hE hs,Result.andThen_ok,hparts,j];simp[zc]
theorem zap{β:Inj}{H:Heap}{w:World}(hR:Rel E.P β H w){t e:TypeId}{len s:Nat}{z:zb}{a:List (Nat×zb)}{l:List zb}(hd:E.desc t=some (.slice e))(hs:E.size e=some s)
  (hz:E.zero e=some z) (hb:len*s<=16777216) (hzs:(zO z).length=s) (h:ze9 (VX s) (len*s) a (Q9 (zO z) len)=some l) (hp:∀p∈a,WF β p.2)
  (parts:Array (Nat×Value)) (hparts:parts.toList=a.map fun p=>(p.1,zc β p.2)) :
  Sim E.P β H w (Instr.buildSlice t len parts) (.slice H.next 0 len len true) (Heap.new H e l):=by
 obtain⟨g1,f⟩:=kJ hE hz β w;have hw:=US (jN f) len;have hlen:=Xb (zO z) s hzs len;rw[<- hlen]at h;obtain⟨j,g,k⟩:=Xo (β:=β) (VX s) a _ l h hp hw;obtain⟨h1,h2⟩:=hR.zbz e g;refine⟨_,_,?_,⟨by simp[Inj.zL],Nat.le_refl _⟩,h1,h2⟩;have b:Instr.fill (fun i=>some (i*s,s)) (zf β (Q9 (zO z) len)).toArray (a.map fun p=>(p.1,zc β p.2))=some (zf β l).toArray:=j;unfold Instr.buildSlice;simp only[Sem.run_bind,zr hE hd,Result.andThen_ok,qx hE hs];rw[if_neg (by omega)];by_cases d:len*s=0
 .have c:=Jj (β:=β) (zO z) s len hzs #[] (fun h=>absurd d h);simp only[d,if_true,Sem.run_bind,Sem.run_pure,Result.andThen_ok]at c ⊢;rw[c,hparts];simp only[b];simp[newRow,zc,yA];rfl
 .have c:=Jj (β:=β) (zO z) s len hzs (zf β (zO z)).toArray (fun _=>rfl);simp only[d,if_false,Sem.run_bind,g1,Sem.run_pure,Result.andThen_ok,jd];rw[c,hparts];simp only[b];simp[newRow,zc,yA];rfl
omit hE in
theorem zg6(n:Nat)(h:n<9223372036854775808):IntKind.i64.wrap (n:Int)=n:=by
 rw[<- j5];have e:Qa .i64 (n:Int)=n:=mod_eq_of_lt (show n<18446744073709551616 by omega);unfold Zi back;rw[e,zl,zN,if_pos]
 .rfl
 .exact decide_eq_true (show n<9223372036854775808 from h)
theorem zd6{β:Inj}{H H':Heap}{w:World}(hR:Rel E.P β H w){t e:TypeId}{l c:Nat}{v:zb}(hd:E.desc t=some (.slice e))(h:mkSlice E H e l c=some (v,H')) :
  Sim E.P β H w (Instr.makeSlice t (.int .i64 l) (.int .i64 c)) v H':=by
 replace h:=ze h;obtain⟨i,hi,h⟩:=h;replace h:=ze h;obtain⟨z,j,h⟩:=h;replace h:=zg h;obtain⟨hc,h⟩:=h;simp only[zY]at h;have h:=jX h;cases h;simp only[zk,Bool.and_eq_true,zG,zu,decide_eq_true_eq,beq_iff_eq,jE]at hc;obtain⟨c1,m,c3,c4⟩:=hc;have c1:c*i.bytes<=1000000000:=c1;obtain⟨g1,k⟩:=kJ hE j β w;have hw:=US (jN k) c;obtain⟨h1,h2⟩:=hR.zbz e hw;refine⟨_,_,?_,⟨by simp[Inj.zL],m⟩,h1,h2⟩;have d:E.size e=some i.size:=by unfold Env.size;rw[hi];rfl
 have wl:IntKind.i64.wrap (l:Int)=l:=zg6 l (by omega);have g:IntKind.i64.wrap (c:Int)=c:=zg6 c (by omega);unfold Instr.makeSlice;simp only[Sem.run_bind,zr hE hd,Result.andThen_ok,Go.asInt,asIntOf,Sem.run_pure,yl hE hi,wl,g,toNat_natCast];have hm:(i.bytes:Int)*(c:Int)=((c*i.bytes:Nat):Int):=by rw[Nat.mul_comm];simp
 have a:¬((decide ((c:Int)<0)||decide ((i.bytes:Int)*(c:Int) > 2 ^ 48)||decide ((l:Int)<0)||decide ((l:Int) > (c:Int)))=true):=by
  rw[hm];simp only[Bool.or_eq_true,decide_eq_true_eq,not_or];omega
 rw[if_neg a];simp only[Sem.run_bind];simp only[run_askRoom,Result.andThen_ok,qx hE d];by_cases f:c*i.size=0
 .have b:=Jj (β:=β) (zO z) i.size c c3 #[] (fun h=>absurd f h);simp only[f,if_true,Sem.run_bind,Sem.run_pure,Result.andThen_ok]at b ⊢;rw[b];simp[newRow,zc,yA];rfl
 .have b:=Jj (β:=β) (zO z) i.size c c3 (zf β (zO z)).toArray (fun _=>rfl);simp only[f,if_false,Sem.run_bind,g1,Sem.run_pure,Result.andThen_ok,jd];rw[b];simp[newRow,zc,yA];rfl
end
end
section
variable[Unk]
theorem Zr(w:World):Alike w { w with drawn:=w.drawn+1 }:=⟨rfl,rfl,rfl,rfl⟩
theorem zbj(p:zb->Option Nat):∀(l:List zb) (acc:List Nat),Us p l acc=bnd (List.rec (motive:=fun _=>Option (List Nat)) (some []) (fun v _ ih=>bnd (p v) fun b=>bnd ih fun m=>some (b::m)) l) fun m=>some (m.reverse++acc)
 | [],acc=>rfl
 | v::l,acc=>by
  have e:Us p (v::l) acc=bnd (p v) fun b=>Us p l (b::acc):=rfl;rw[e];show _=bnd (bnd (p v) fun b=>bnd (List.rec (motive:=fun _=>Option (List Nat)) (some []) (fun v _ ih=>bnd (p v) fun b=>bnd ih fun m=>some (b::m)) l) fun m=>some (b::m)) fun m=>some (m.reverse++acc)
  cases p v with
  | none=>rfl
  | some b=>
   rw[qw,qw,zbj p l (b::acc)]
   cases(List.rec (motive:=fun _=>Option (List Nat)) (some []) (fun v _ ih=>bnd (p v) fun b=>bnd ih fun m=>some (b::m)) l) with
   | none=>rfl
   | some m=>simp[qw]
theorem zl3:∀(l acc:List Nat),zsX l acc=l.reverse++acc
 | [],_=>rfl
 | a::l,acc=>by
  have e:zsX (a::l) acc=zsX l (a::acc):=rfl;rw[e,zl3 l];simp
theorem zbl(p:zb->Option Nat)(l:List zb):YU p l=List.rec (motive:=fun _=>Option (List Nat)) (some []) (fun v _ ih=>bnd (p v) fun b=>bnd ih fun m=>some (b::m)) l:=by
 unfold YU;rw[zbj]
 cases(List.rec (motive:=fun _=>Option (List Nat)) (some []) (fun v _ ih=>bnd (p v) fun b=>bnd ih fun m=>some (b::m)) l) with
 | none=>rfl
 | some m=>simp[qw,zl3]
theorem Ys(p:zb->Option Nat)(v:zb)(l:List zb):YU p (v::l)=bnd (p v) fun b=>bnd (YU p l) fun m=>some (b::m):=by
 rw[zbl,zbl]
theorem zpf:∀(t:Tr zb) (n:Nat),tight t n=true->(∀i,i<n->∃v,t.get i=some v/\yS v=true)/\∀i,n<=i->t.get i=none:=by
 intro t
 induction t with
 | nil=>
  intro n h;have h:Nat.beq n 0=true:=h;rw[zu,beq_iff_eq]at h;subst h
  exact⟨fun i hi=>by omega,fun i _=>Tr.get_nil i⟩
 | node l v r f d=>
  intro n h
  cases n with
  | zero=>cases h
  | succ m=>
   have h:zh v false (fun a=>ifB (yS a) (ifB (tight l (Nat.div (Nat.succ m) 2)) (tight r (Nat.div m 2)) false) false)=true:=h
   cases v with
   | none=>cases h
   | some a=>
    rw[zd,zl]at h;split at h
    .rename_i g;rw[zl]at h;split at h
     .rename_i hl;obtain⟨l1,l2⟩:=f _ hl;obtain⟨r1,r2⟩:=d _ h;have e1:Nat.div (Nat.succ m) 2=(m+1) / 2:=rfl;have e2:Nat.div m 2=m / 2:=rfl;rw[e1]at l1 l2;rw[e2]at r1 r2
      have parts:∀i:Nat,i=0\/(∃j,i=2*j+1)\/∃j,i=2*j+2:=fun i=>by
       rcases eq_zero_or_pos i with h|h
       .exact .inl h
       .rcases mod_two_eq_zero_or_one i with h2|h2
        .exact .inr (.inr ⟨i / 2-1,by omega⟩)
        .exact .inr (.inl ⟨i / 2,by omega⟩)
      refine⟨fun i hi=>?_,fun i hi=>?_⟩
      .rcases parts i with rfl|⟨j,rfl⟩|⟨j,rfl⟩
       .exact⟨a,QB _ _ _,g⟩
       .rw[yJ];exact l1 j (by omega)
       .rw[kV];exact r1 j (by omega)
      .rcases parts i with rfl|⟨j,rfl⟩|⟨j,rfl⟩
       .omega
       .rw[yJ];exact l2 j (by omega)
       .rw[kV];exact r2 j (by omega)
     .cases h
    .cases h
theorem zdd{d:Type}:∀(n:Nat) (t:Tr d) (o:Nat),(∀i,i<n->∃v,t.get (o+i)=some v)->∃l,Tr.kx n t o=some l
 | 0,_,_,_=>⟨[],rfl⟩
 | n+1,t,o,h=>by
  obtain⟨v,hv⟩:=h 0 (by omega)
  obtain⟨l,hl⟩:=zdd n t (o+1) fun i hi=>by
   obtain⟨u,hu⟩:=h (i+1) (by omega);exact⟨u,by rw[<- hu];congr 1;omega⟩
  refine⟨v::l,?_⟩;show(bnd (t.get o) fun a=>bnd (Tr.kx n t (o+1)) fun l=>some (a::l))=_;rw[show t.get o=some v from hv,hl];rfl
theorem ze3{a:Type}(n:Nat)(t:Tr a)(o:Nat)(h:∀i,i<n->∃v,t.get (o+i)=some v):∃l,Tr.JX n t o=some l:=by
 obtain⟨l,hl⟩:=zdd n t o h;exact⟨l,by rw[Tr.zmG];exact hl⟩
theorem zlw{H H' : Heap}{e : TypeId}{a : Nat}{s : Sl}{n : Nat}{new : List zb}{v : zb}(h : zgH H e a s n new = some (v, H')) :
    ∃B k c c', H' = ⟨Tr.set B H.next (.cells e k c'), H.next + 1⟩ /\ ZW H e a s n new = some (v, ⟨Tr.set B H.next (.cells e k c), H.next + 1⟩) /\ ∀i, c'.get i = c.get i := by
  unfold zgH at h;obtain⟨r, hr, h⟩ := ze h;rw[zY, zl] at h;split at h
  · rename_i f
    rw[zk, Bool.and_eq_true, zu, beq_iff_eq] at f;obtain⟨z, f⟩ := f;obtain⟨D, I⟩ := zpf _ _ f
    obtain⟨old, hold⟩ := ze3 (Nat.mul s.len a) r.c s.off fun i hi => by
      obtain⟨u, hu, _⟩ := D i hi;exact⟨u, by rw[z, Nat.zero_add]; exact hu⟩
    obtain⟨g1, C⟩ := Tr.jx _ _ _ _ hold
    have d : Q0 yS old = true := by
      rw[ZX, List.all_eq_true];intro u hu;obtain⟨i, hi, rfl⟩ := List.getElem_of_mem hu;obtain⟨J, o, ok⟩ := D i (by rw[<- g1]; exact hi);have := C i (by rw[<- g1]; exact hi);rw[z, Nat.zero_add, o, List.getElem?_eq_getElem hi] at this;cases this;exact ok
    have key : ∀(H2 : Heap) (r2 : zb × Heap), zbV H2 e (Nat.add s.len n) (Nat.mul s.len a) r.c new = some r2 ->
        ∃c', r2 = (.slice H2.next 0 (s.len + n) (s.len + n) false, ⟨Tr.set H2.blk H2.next (.cells e (old.length + new.length) c'), H2.next + 1⟩) /\
          QZ H2 e (Nat.add s.len n) (zP old new) = some (.slice H2.next 0 (s.len + n) (s.len + n) false, ⟨Tr.set H2.blk H2.next (.cells e (old.length + new.length) (Tr.ofList (old ++ new))), H2.next + 1⟩) /\
          ∀i, c'.get i = (Tr.ofList (old ++ new)).get i := by
      intro H2 r2 h2;unfold zbV at h2;obtain⟨h3, h2⟩ := zg h2;simp only[zY] at h2;cases h2;refine⟨Tr.zns new r.c (Nat.mul s.len a), ?_, ?_, fun i => ?_⟩
      · rw[jE, g1]; rfl
      · unfold QZ
        rw[zT]
        have h4 : Q0 yS (old ++ new) = true := by
          rw[ZX, List.all_eq_true] at h3 d ⊢;intro u hu;rcases List.mem_append.1 hu with hu|hu
          · exact d u hu
          · exact h3 u hu
        rw[h4, qK];simp only[zY];show some (zb.slice H2.next 0 (s.len + n) (s.len + n) false, Heap.new ⟨H2.blk, H2.next⟩ e (old ++ new)) = _;unfold Heap.new;rw[jE, length_append]
      · rw[Tr.zde, Tr.qc]
        have A : old.length = Nat.mul s.len a := g1;by_cases hi : Nat.mul s.len a <= i /\ i < Nat.mul s.len a + new.length
        · rw[if_pos hi, List.getElem?_append_right (by omega), A]
        · rw[if_neg hi]
          rcases Nat.lt_or_ge i (Nat.mul s.len a) with h5|h5
          · rw[List.getElem?_append_left (by omega)]
            have := C i h5;rw[z, Nat.zero_add] at this;exact this
          · rw[I i h5, List.getElem?_eq_none (by rw[length_append]; omega)]
    have G : ZW H e a s n new = ifB s.ex (QZ H e (Nat.add s.len n) (zP old new))
      (ifB (zn (Nat.ble 100 s.b) (zn (Nat.beq r.t e) (zn (Nat.beq (Nat.mod s.off a) 0) (Nat.beq (Nat.add s.off (Nat.mul s.cap a)) r.n)))) (QZ ⟨H.blk.del s.b, H.next⟩ e (Nat.add s.len n) (zP old new)) none) := by
      unfold ZW;rw[hr, qw, hold, qw]
    rw[G];rw[zl] at h;rw[zl];split at h
    · rename_i hx
      obtain⟨c', g, k2, k3⟩ := key _ _ h;cases g;rw[if_pos hx];exact⟨H.blk, _, _, c', rfl, k2, k3⟩
    · rename_i hx
      rw[if_neg hx];obtain⟨hb, h⟩ := zg h;obtain⟨c', g, k2, k3⟩ := key _ _ h;cases g;rw[hb, qK];exact⟨H.blk.del s.b, _, _, c', rfl, k2, k3⟩
  · have h1 := h
    unfold ZW at h;rw[hr, qw] at h;obtain⟨old, hold, h⟩ := ze h
    have key : ∀(H2 : Heap), H2.next = H.next -> QZ H2 e (Nat.add s.len n) (zP old new) = some (v, H') -> ∃B k c c', H' = ⟨Tr.set B H.next (.cells e k c'), H.next + 1⟩ /\ ZW H e a s n new = some (v, ⟨Tr.set B H.next (.cells e k c), H.next + 1⟩) /\ ∀i, c'.get i = c.get i := by
      intro H2 hn h2;rw[<- hn];unfold QZ at h2;obtain⟨_, h2⟩ := zg h2;simp only[zY] at h2;have h2 := jX h2;cases h2;exact⟨H2.blk, _, _, _, rfl, h1, fun _ => rfl⟩
    rw[zl] at h;split at h
    · exact key H rfl h
    · obtain⟨_, h⟩ := zg h
      exact key ⟨H.blk.del s.b, H.next⟩ rfl h
section
variable{E:Env}(hE:yg E)
include hE
omit hE in
theorem UM(s:List Nat)(hs:∀b∈s,b<256)(β:Inj):((str s).data.map fun b=>Value.int .u8 b.toNat)=(zf β (mapA u8 s)).toArray:=by
 apply Array.toList_inj.1;simp only[Array.toList_map,XZ,List.map_map,zx,jn];apply List.map_congr_left;intro b hb;have:=hs b hb;simp[u8,zc];omega
omit hE in
theorem zss(β:Inj)(s:List Nat):WFs β (mapA u8 s):=by
 rw[zV,jn];intro v hv;obtain⟨b,_,rfl⟩:=List.mem_map.1 hv;trivial
theorem UN{P:Program}{β:Inj}{H:Heap}{w:World}(hR:Rel P β H w){a:Nat}{x:zb}{p:Nat×List zb}(h:yU H a x=some p)(hx:WF β x) :
  (Builtin.lenOf (zc β x)).run P w = .ok p.1 w/\(Builtin.firstCells a p.1 (zc β x)).run P w = .ok (zf β p.2).toArray w/\WFs β p.2 /\
  (∀m,m<=p.1->p.2.length=p.1*a->(Builtin.firstCells a m (zc β x)).run P w = .ok (zf β (p.2.take (m*a))).toArray w):=by
 have _:=hE;unfold yU at h
 cases h1:kN x with
 | some s=>
  obtain rfl:=jP h1;rw[h1,zd]at h;replace h:=ze h;obtain⟨l,hl,h⟩:=h;cases h;obtain⟨g1,D,g⟩:=hR.kM hl hx.1;refine⟨by simp[Builtin.lenOf,zc],?_,D,fun m hm hlen=>?_⟩
  .have g:(loadCells (β.addr s.b s.off) (s.len*a)).run P w = .ok (zf β l).toArray w:=g;simp[Builtin.firstCells,zc,g]
  ·
   replace hl:=ze hl;obtain⟨r,hr,hl⟩:=hl;obtain⟨o,k2⟩:=Tr.jx _ _ _ _ hl;have f:m*a<=l.length:=by rw[hlen];exact mul_le_mul_right _ hm
   have:=run_loadCells_list (P:=P) (w:=w) (β.addr s.b s.off) (zf β (l.take (m*a))) (by
    intro j v d;rw[zx,List.getElem?_map,getElem?_take]at d;split at d
    .rename_i A
     cases hv:l[j]? with
     | none=>rw[hv]at d;cases d
     | some u=>
      rw[hv]at d;cases d;rw[Inj.jF];refine(hR.cell hr hx.1 ?_).1;rw[k2 j (by rw[<- o];omega)];exact hv
    .cases d)
   rw[zx,length_map,length_take,Nat.min_eq_left f,<- zx]at this
   simp[Builtin.firstCells,zc,this]
 | none=>
  rw[h1,zm]at h
  cases h2:jm x with
  | some s=>
   obtain rfl:=qG h2;rw[h2,zd,jE]at h;cases h;refine⟨by simp[Builtin.lenOf,zc,qm],?_,zss β s,fun m hm hlen=>?_⟩
   .have e:(str s).extract 0 s.length=str s:=by
     apply ByteArray.ext;apply Array.toList_inj.1;simp only[str,ByteArray.data_extract,toList_extract,extract_eq_take_drop,drop_zero,Nat.sub_zero];exact take_of_length_le (by simp)
    simp only[Builtin.firstCells,zc,Sem.run_pure,e,UM s hx β]
   .have z:s.length=s.length*a:=by simpa using hlen
    have e:(str s).extract 0 m=str (s.take m):=by
     apply ByteArray.ext;apply Array.toList_inj.1;simp[str,extract_eq_take_drop]
    have e2:(mapA u8 s).take (m*a)=mapA u8 (s.take m):=by
     simp only[jn,map_take];by_cases C:s.length=0
     .have:s=[]:=List.length_eq_zero_iff.1 C;simp[this]
     .have:a=1:=by
       rcases Nat.lt_trichotomy a 1 with h|h|h
       .have:a=0:=by omega
        subst this;omega
       .exact h
       .have:s.length*1<s.length*a:=Nat.mul_lt_mul_of_pos_left h (by omega);omega
      rw[this,Nat.mul_one]
    simp only[Builtin.firstCells,zc,Sem.run_pure,e,e2]
    rw[UM (s.take m) (fun b hb=>hx b (mem_of_mem_take hb)) β]
  | none=>
   rw[h2,zm]at h;replace h:=zg h;obtain⟨h3,h⟩:=h;obtain rfl:=jB h3;cases h;exact⟨by simp[Builtin.lenOf,zc],by simp[Builtin.firstCells,zc,zf],trivial,fun m hm _=>by simp[Builtin.firstCells,zc,zf]⟩
omit hE in
theorem zob(n:Nat):∀r c,c<=2*n+1000->c<n\/n<=c->Builtin.growBy n r c<=2*n+1000:=by
 intro r
 induction r with
 | zero=>intro c h _;exact h
 | succ r ih=>
  intro c h _;simp only[Builtin.growBy];split
  .exact h
  .exact ih _ (by omega) (by omega)
omit hE in
theorem zku(n c:Nat)(h:c<n):Builtin.nextslicecap n c<=2*n+1000:=by
 unfold Builtin.nextslicecap;split
 .omega
 .split
  .omega
  .exact zob n _ _ (by omega) (by omega)
omit hE in
theorem zk0(need old:Nat)(e:TypeId)(t:Nat):need<=(Question.appendCap need old e).cut t:=by
 simp[Question.cut]
def zbX(E:Env)(β:Inj)(w:World)(e:TypeId)(i:TypeInfo)(xd:TypeDesc)(x:zb)(n:Nat)(new:List zb):Prop:=
 (isInt xd=false/\(Builtin.lenOf (zc β x)).run E.P w = .ok n w/\∀w',Alike w w'->(Builtin.firstCells i.size n (zc β x)).run E.P w' = .ok (zf β new).toArray w') \/
 (isInt xd=true/\zc β x = .int .i64 n/\n*i.bytes<=1000000000/\n<=1000000000/\∃z,E.zero e=some z/\(zO z).length=i.size/\new=Q9 (zO z) n)
theorem zjv(β:Inj)(z:zb)(n:Nat):Builtin.zeroCells (zc β z).cells n=(zf β (Q9 (zO z) n)).toArray:=by
 have _:=hE;unfold Builtin.zeroCells;have:=Jj (β:=β) (zO z) (zO z).length n rfl (zc β z).cells (fun _=>jd β z);rw[show(zc β z).cells.size=(zO z).length by rw[jd,zx];simp];rw[show(zc β z).cells.size=(zO z).length by rw[jd,zx];simp]at this;exact this
theorem zey{β:Inj}{w:World}{e:TypeId}{z:zb}{s n:Nat}(f:E.zero e=some z)(a:(zO z).length=s) :
  (if n*s=0 then(pure #[]:Sem (Array Value)) else do pure (Builtin.zeroCells (<- zeroValue e).cells n)).run E.P w = .ok (zf β (Q9 (zO z) n)).toArray w:=by
 obtain⟨d,_⟩:=kJ hE f β w;split
 .rename_i h;have:Q9 (zO z) n=[]:=List.length_eq_zero_iff.1 (by rw[Xb _ s a];exact h);rw[this];simp[zf]
 .simp only[Sem.run_bind,d,Result.andThen_ok,Sem.run_pure,zjv hE β z]
omit hE in
theorem wrap_i64{n:Nat}(h:n<=1000000000):IntKind.i64.wrap (n:Int)=n:=by
 unfold IntKind.wrap IntKind.signed IntKind.bits;simp;omega
omit hE in
theorem zfr(P:Program)(w:World)(k:IntKind)(n:Int):(Go.asInt (.int k n)).run P w = .ok n w:=by
 unfold Go.asInt Go.asIntOf;simp
omit hE in
theorem alike_refl(w:World):Alike w w:=⟨rfl,rfl,rfl,rfl⟩
theorem run_append_grow{β : Inj}{w : World}{Q O : TypeId}{e : TypeId}{g : TypeDesc}{i : TypeInfo}{z : zb}{base : Option Addr}{sLen sCap n : Nat}{x : zb}{old new : List zb}
    (hs : E.desc Q = some (.slice e)) (hxd : E.desc O = some g) (hi : E.types.get e = some i) (hz : E.zero e = some z) (hzs : (zO z).length = i.size)
    (hroom : (sLen + n) * i.bytes <= 1000000000) (hroom2 : sLen + n <= 1000000000) (hmode : zbX E β w e i g x n new)
    (hold : ∀w', Alike w w' -> (Builtin.firstCells i.size sLen (.slice base sLen sCap)).run E.P w' = .ok (zf β old).toArray w')
    (hcap : sCap < sLen + n) (ty : TypeId) :
    ∃k extra, extra.length = k * i.size /\ (Builtin.append_ #[Q, O] ty #[.slice base sLen sCap, zc β x]).run E.P w =
      .ok (.slice (some ⟨w.heap.size, 0, none⟩) (sLen + n) (sLen + n + k)) (push { w with drawn := w.drawn + 1 } (.cells (zf β (old ++ new) ++ extra).toArray e)) := by
  have A : E.size e = some i.size := by unfold Env.size; rw[hi]; rfl
  have hq := zk0 (sLen + n) sCap e (w.tape w.drawn (.appendCap (sLen + n) sCap e));generalize hcut : (Question.appendCap (sLen + n) sCap e).cut (w.tape w.drawn (.appendCap (sLen + n) sCap e)) = newCap at hq;refine⟨newCap - (sLen + n), (Builtin.zeroCells (zc β z).cells (newCap - (sLen + n))).toList, ?_, ?_⟩
  · simp[Builtin.zeroCells, jd, zx, hzs]
  · have K := Zr w
    obtain⟨L, X⟩ := kJ hE hz β { w with drawn := w.drawn + 1 };have G := zku (sLen + n) sCap hcap
    have hle : Builtin.nextslicecap (sLen + n) sCap * i.bytes <= 2 ^ 48 := by
      have h1 : Builtin.nextslicecap (sLen + n) sCap * i.bytes <= (2 * (sLen + n) + 1000) * i.bytes := mul_le_mul_right _ G;have h2 : i.bytes <= (sLen + n) * i.bytes := Nat.le_mul_of_pos_left _ (by omega);have h3 : (2 * (sLen + n) + 1000) * i.bytes = 2 * ((sLen + n) * i.bytes) + 1000 * i.bytes := by rw[Nat.add_mul, Nat.mul_assoc]
      omega
    have a : ¬(((sLen + n : Nat) : Int) > IntKind.i64.max) := by
      have : IntKind.i64.max = 9223372036854775807 := by decide
      rw[this]; omega
    have T : (zf β old).toArray ++ (zf β new).toArray ++ Builtin.zeroCells (zc β z).cells (newCap - (sLen + n)) =
        (zf β (old ++ new) ++ (Builtin.zeroCells (zc β z).cells (newCap - (sLen + n))).toList).toArray := by
      apply Array.toList_inj.1;simp[zx]
    unfold Builtin.append_;simp only[getElem?_toArray, getElem?_cons_zero, getElem?_cons_succ, Sem.run_bind, zr hE hs, Result.andThen_ok, qx hE A, zr hE hxd, Sem.run_pure];rcases hmode with⟨D, hlen, f⟩|⟨u, I, U, J, Y, o, d, C⟩
    · cases g
      case int => simp[isInt] at D
      all_goals
        simp only[Bool.false_eq_true, if_false, Bool.not_false, if_true, false_or];rw[Sem.run_bind, hlen, Result.andThen_ok, if_neg (by omega)];simp only[Sem.run_bind, yl hE hi, Result.andThen_ok];rw[if_neg (fun h => a h.1)];simp only[Sem.run_bind, yl hE hi, Result.andThen_ok];rw[if_neg (by omega)];simp only[Sem.run_bind, run_choose, Question.forced, Bool.false_eq_true, if_false, Result.andThen_ok, yl hE hi, run_askRoom, hcut, hold _ K, f _ K, L];simp only[newRow, Sem.run_bind, run_newObj, Sem.run_pure, Result.andThen_ok];rw[show sLen + n + (newCap - (sLen + n)) = newCap by omega];rw[T]; rfl
    · cases g
      case int k' =>
        have hw := zey (β := β) (w := { w with drawn := w.drawn + 1 }) (n := n) hE o d;rw[<- C] at hw;simp only[if_true, Bool.not_true, Bool.false_eq_true, if_false, true_or, and_true, I];simp only[Sem.run_bind, zfr, wrap_i64 J, Result.andThen_ok];rw[if_neg (by omega)];simp only[Sem.run_bind, yl hE hi, Result.andThen_ok];rw[if_neg (by omega)];simp only[toNat_natCast];rw[Sem.run_bind, Sem.run_pure, Result.andThen_ok, if_neg (by omega)];simp only[Sem.run_bind, yl hE hi, Result.andThen_ok];rw[if_neg a];simp only[Sem.run_bind, yl hE hi, Result.andThen_ok];rw[if_neg (by omega)];simp only[Sem.run_bind, run_choose, Question.forced, Bool.false_eq_true, if_false, Result.andThen_ok, yl hE hi, run_askRoom, hcut, hold _ K, hw, L];simp only[newRow, Sem.run_bind, run_newObj, Sem.run_pure, Result.andThen_ok];rw[show sLen + n + (newCap - (sLen + n)) = newCap by omega];rw[T]; rfl
      all_goals simp[isInt] at u
theorem yW{β:Inj}{w w':World}{J I:TypeId}{e:TypeId}{g:TypeDesc}{i:TypeInfo}{base:Option Addr}{sLen sCap n:Nat}{x:zb}{new:List zb}
  (hs:E.desc J=some (.slice e)) (hxd:E.desc I=some g) (hi:E.types.get e=some i) (hmode:zbX E β w e i g x n new)
  (hst:(match base with|some a=>storeCells (a.add (sLen*i.size)) (zf β new)|none=>(pure ():Sem Unit)).run E.P w = .ok () w')
  (hcap:sLen+n<=sCap) (ty:TypeId) :
  (Builtin.append_ #[J,I] ty #[.slice base sLen sCap,zc β x]).run E.P w = .ok (.slice base (sLen+n) sCap) w':=by
 have z:E.size e=some i.size:=by unfold Env.size;rw[hi];rfl
 unfold Builtin.append_;simp only[getElem?_toArray,getElem?_cons_zero,getElem?_cons_succ,Sem.run_bind,zr hE hs,Result.andThen_ok,qx hE z,zr hE hxd,Sem.run_pure];rcases hmode with⟨C,hlen,f⟩|⟨u,D,K,G,L,o,d,A⟩
 .cases g
  case int=>simp[isInt]at C
  all_goals
   simp only[Bool.false_eq_true,if_false,Bool.not_false,if_true];rw[Sem.run_bind,hlen,Result.andThen_ok,if_pos hcap];simp only[Sem.run_bind,f _ (alike_refl w),Result.andThen_ok]
   cases base with
   | none=>simp at hst ⊢;exact hst
   | some a=>simp only[Sem.run_bind,hst,Result.andThen_ok,Sem.run_pure]
 .cases g
  case int k'=>
   have hw:=zey (β:=β) (w:=w) (n:=n) hE o d;rw[<- A]at hw;simp only[if_true,Bool.not_true,Bool.false_eq_true,if_false,D];simp only[Sem.run_bind,zfr,wrap_i64 G,Result.andThen_ok];rw[if_neg (by omega)];simp only[Sem.run_bind,yl hE hi,Result.andThen_ok];rw[if_neg (by omega)];simp only[toNat_natCast];rw[Sem.run_bind,Sem.run_pure,Result.andThen_ok,if_pos hcap];simp only[Sem.run_bind,hw,Result.andThen_ok]
   cases base with
   | none=>simp at hst ⊢;exact hst
   | some a=>simp only[Sem.run_bind,hst,Result.andThen_ok,Sem.run_pure]
  all_goals simp[isInt]at u
theorem J0{e:TypeId}{a:Nat}(h:yi E e a=true):∃z,E.zero e=some z/\(zO z).length=a:=by
 have _:=hE;unfold yi at h
 cases d:E.zero e with
 | none=>rw[d]at h;cases h
 | some z=>rw[d,zd,zu,jE,beq_iff_eq]at h;exact⟨z,rfl,h⟩
theorem Rel.grown{P:Program}{β:Inj}{H:Heap}{w:World}(hR:Rel P β H w)(e:TypeId){l:List zb}(hl:WFs β l){k:Nat}{extra:List Value}(f:extra.length=k*qX P e) :
  Rel P (β.put H.next (w.heap.size,0,k)) (Heap.new H e l) (push { w with drawn:=w.drawn+1 } (.cells (zf β l++extra).toArray e)) /\
  Ext β H w (β.put H.next (w.heap.size,0,k)) (Heap.new H e l) (push { w with drawn:=w.drawn+1 } (.cells (zf β l++extra).toArray e)):=by
 have _:=hE;have d:=Zr w;have a:=hR.alike d;obtain⟨h1,h2⟩:=a.newRow (t:=e) (e:=k) (fz:=(0,0)) (j9.ofList hl extra k (by omega) (0,0) (by simp));exact⟨h1,(Ext.alike hR.bnd d).trans h2⟩
theorem zaj{P : Program}{β : Inj}{H : Heap}{w w' : World}(hR : Rel P β H w)(d : Alike w w'){a : Nat}{x : zb}{p : Nat × List zb}(h : yU H a x = some p)(hx : WF β x) :
    (Builtin.firstCells a p.1 (zc β x)).run P w' = .ok (zf β p.2).toArray w' := (UN hE (hR.alike d) h hx).2.1
theorem zsh{β:Inj}{H:Heap}{w:World}(hR:Rel E.P β H w){e:TypeId}{i:TypeInfo}{f:TypeDesc}{x:zb}{p:Nat×List zb}
  (h:ifB (isInt f) (zoJ E e i x) (yU H i.size x)=some p) (hx:WF β x):zbX E β w e i f x p.1 p.2/\WFs β p.2:=by
 rw[zl]at h;split at h
 .rename_i a;replace h:=ze h;obtain⟨q,hq,h⟩:=h;obtain rfl:=jr hq;replace h:=zg h;obtain⟨d,h⟩:=h;have d:=Zd d;replace h:=jj h;obtain⟨n,hn,h⟩:=h;replace h:=zg h;obtain⟨hr,h⟩:=h;unfold roomy at hr;rw[zk,Bool.and_eq_true,zG,zG,decide_eq_true_eq,decide_eq_true_eq]at hr;replace h:=ze h;obtain⟨z,g,h⟩:=h;replace h:=zg h;obtain⟨hs,h⟩:=h;rw[zu,jE,beq_iff_eq]at hs;cases h;refine⟨Or.inr ⟨a,by simp[zc,d,hn],hr.1,hr.2,z,g,hs,rfl⟩,US (jN (kJ hE g β w).2) _⟩
 .rename_i a;obtain⟨g1,A,u,_⟩:=UN hE hR h hx;exact⟨Or.inl ⟨by simpa using a,g1,fun w' o=>zaj hE hR o h hx⟩,u⟩
theorem XO{β:Inj}{H H':Heap}{w:World}(hR:Rel E.P β H w){sT xT:TypeId}{s x v:zb}(h:zax E H sT xT s x=some (v,H'))(hs:WF β s)(hx:WF β x)(ty:TypeId) :
  Sim E.P β H w (Builtin.append_ #[sT,xT] ty #[zc β s,zc β x]) v H':=by
 replace h:=ze h;obtain⟨d,hd,h⟩:=h;replace h:=ze h;obtain⟨e,he,h⟩:=h;obtain rfl:=jJ he;replace h:=ze h;obtain⟨xd,A,h⟩:=h;replace h:=ze h;obtain⟨i,hi,h⟩:=h;replace h:=ze h;obtain⟨p,hp,h⟩:=h;replace h:=zg h;obtain⟨I,h⟩:=h;rw[zu,jE,beq_iff_eq]at I;have I:p.2.length=p.1*i.size:=I;obtain⟨a,g3⟩:=zsh hE hR hp hx;have g:qX E.P e=i.size:=(Qy hE (show E.size e=some i.size by unfold Env.size;rw[hi];rfl)).choose_spec.2.2.2;unfold zau at h
 cases h1:kN s with
 | none=>
  rw[h1,zm]at h;replace h:=zg h;obtain⟨h2,h⟩:=h;obtain rfl:=jB h2;obtain⟨n,l⟩:=p
  cases n with
  | zero=>
   cases h;refine qh.sim ⟨?_,trivial⟩ hR
   exact yW hE (base:=none) (sLen:=0) (sCap:=0) hd A hi a rfl (Nat.le_refl _) ty
  | succ n=>
   rw[WL]at h;replace h:=zg h;obtain⟨h3,h⟩:=h;rw[zk,Bool.and_eq_true]at h3;obtain⟨z,hz,G⟩:=J0 hE h3.1;have h4:=h3.2;unfold roomy at h4;rw[zk,Bool.and_eq_true,zG,zG,decide_eq_true_eq,decide_eq_true_eq]at h4;replace h:=zg h;obtain⟨h5,h⟩:=h;simp only[zY]at h;have h:=jX h;cases h
   obtain⟨k,extra,X,k2⟩:=run_append_grow hE (sLen:=0) (sCap:=0) (base:=none) (old:=[]) (new:=l) (n:=n+1) hd A hi hz G (by simpa using h4.1) (by simpa using h4.2) a
    (fun w' _=>by simp[Builtin.firstCells,zf]) (by omega) ty
   obtain⟨r1,r2⟩:=hR.grown hE e g3 (k:=k) (extra:=extra) (by rw[g];exact X);refine⟨_,_,?_,⟨by simp[Inj.zL],Nat.le_refl _⟩,r1,r2⟩;rw[show zc β .nilslice = .slice none 0 0 from rfl,k2]
   simp[zc,yA,Um]
 | some q=>
  obtain rfl:=jP h1;rw[h1,zd,zl,zG]at h;split at h
  ·
   rename_i hc;rw[decide_eq_true_eq]at hc;have hc:q.len+p.1<=q.cap:=hc;replace h:=ze h;obtain⟨H1,hst,h⟩:=h;cases h;obtain⟨w',s1,s2,s3⟩:=hR.Jv hst hs.1 g3;refine⟨β,w',?_,⟨hs.1,hc⟩,s2,s3⟩;have e1:(β.addr q.b q.off).add (q.len*i.size)=β.addr q.b (Nat.add q.off (Nat.mul q.len i.size)):=Inj.jF _ _ _ _;exact yW hE (base:=some (β.addr q.b q.off)) hd A hi a (by show(storeCells _ _).run _ _=_;rw[e1];exact s1) (by split<;>omega) ty
  .rename_i hc;rw[decide_eq_true_eq]at hc;have hc:¬q.len+p.1<=q.cap:=hc;replace h:=zg h;obtain⟨h3,h⟩:=h;rw[zk,Bool.and_eq_true]at h3;obtain⟨z,hz,G⟩:=J0 hE h3.1;have h4:=h3.2;unfold roomy at h4;rw[zk,Bool.and_eq_true,zG,zG,decide_eq_true_eq,decide_eq_true_eq]at h4;obtain⟨K,J⟩:=h4;have K:(q.len+p.1)*i.bytes<=1000000000:=K;have J:q.len+p.1<=1000000000:=J;replace h:=ze h;obtain⟨r,hr,h⟩:=h;replace h:=ze h;obtain⟨old,hold,h⟩:=h
   have hl:H.kM q.b q.off (q.len*i.size)=some old:=by
    unfold Heap.kM;rw[hr];exact hold
   have C:∀c w',Alike w w'->(Builtin.firstCells i.size q.len (.slice (some (β.addr q.b q.off)) q.len c)).run E.P w' = .ok (zf β old).toArray w':=by
    intro c w' hA;have:=((hR.alike hA).kM hl hs.1).2.2;simp[Builtin.firstCells,this]
   have U:WFs β old:=(hR.kM hl hs.1).2.1;have f:old.length=q.len*i.size:=(hR.kM hl hs.1).1
   have o:WFs β (old++p.2):=by
    rw[zV]at *;intro v hv;rcases List.mem_append.1 hv with hv|hv
    .exact U v hv
    .exact g3 v hv
   rw[zl]at h;split at h
   ·
    rename_i hex;replace h:=zg h;obtain⟨h5,h⟩:=h;simp only[zY]at h;have h:=jX h;cases h
    obtain⟨k,extra,X,k2⟩:=run_append_grow hE (sLen:=q.len) (sCap:=q.cap) (base:=some (β.addr q.b q.off)) (old:=old) (new:=p.2) (n:=p.1) hd A hi hz G K J a
     (C _) (by omega) ty
    obtain⟨r1,r2⟩:=hR.grown hE e o (k:=k) (extra:=extra) (by rw[g];exact X);refine⟨β.put H.next (w.heap.size,0,k),_,?_,⟨by simp[Inj.zL],Nat.le_refl _⟩,by rw[zT];exact r1,by rw[zT];exact r2⟩;rw[show zc β (.slice q.b q.off q.len q.cap q.ex) = .slice (some (β.addr q.b q.off)) q.len q.cap by simp[zc,hex],k2];simp[zc,yA,Um]
   .rename_i hex;replace h:=zg h;obtain⟨Z,h⟩:=h;rw[zk,Bool.and_eq_true,zk,Bool.and_eq_true,zk,Bool.and_eq_true,zu,beq_iff_eq,zu,beq_iff_eq,zu,beq_iff_eq,zG,decide_eq_true_eq]at Z;obtain⟨h60,O,T,Z⟩:=Z;have T:q.off % i.size=0:=T;have Z:q.off+q.cap*i.size=r.n:=Z;replace h:=zg h;obtain⟨h5,h⟩:=h;simp only[zY]at h;have h:=jX h;cases h;obtain⟨y,hy⟩:=Option.isSome_iff_exists.1 hs.1;obtain⟨hD1,hD2⟩:=hR.del h60 hy
    have hcs:zc β (.slice q.b q.off q.len q.cap q.ex) = .slice (some (β.addr q.b q.off)) q.len (q.cap+β.ext q.b):=by
     simp only[zc];rw[if_neg hex]
    rcases Nat.lt_or_ge (q.cap+β.ext q.b) (q.len+p.1) with hlt|hge
    ·
     obtain⟨k,extra,X,k2⟩:=run_append_grow hE (sLen:=q.len) (sCap:=q.cap+β.ext q.b) (base:=some (β.addr q.b q.off)) (old:=old) (new:=p.2) (n:=p.1) hd A hi hz G K J a
      (C _) hlt ty
     obtain⟨r1,r2⟩:=hD1.grown hE e o (k:=k) (extra:=extra) (by rw[g];exact X);refine⟨β.put H.next (w.heap.size,0,k),_,?_,⟨by simp[Inj.zL],Nat.le_refl _⟩,by rw[zT];exact r1,by rw[zT];exact hD2.trans r2⟩;rw[hcs,k2];simp[zc,yA,Um]
    ·
     obtain⟨arr,fz,a1,a2⟩:=hR.rowAt hr hs.1;have L:=a2.size;rw[O,g]at L;have hmul:(q.cap+β.ext q.b)*i.size=q.cap*i.size+β.ext q.b*i.size:=Nat.add_mul _ _ _;have hmul2:(q.len+p.1)*i.size<=(q.cap+β.ext q.b)*i.size:=mul_le_mul_right _ hge;have hmul3:(q.len+p.1)*i.size=q.len*i.size+p.1*i.size:=Nat.add_mul _ _ _
     have hok:∀v∈p.2,yS v=true:=by
      rw[ZX,List.all_eq_true]at h5;intro v hv;exact h5 v (by rw[zT];exact List.mem_append_right _ hv)
     obtain⟨w',D,s1,s2,s3,s4,s5⟩:=VC (P:=E.P) (β.blk q.b) (β.sh q.b+q.off+q.len*i.size) r.t fz (zf β p.2) 0 w arr a1 a2.thaw
      (by rw[zx,length_map];omega) (by
       intro u hu;rw[zx]at hu;obtain⟨v,hv,rfl⟩:=List.mem_map.1 hu
       exact U6 (hok v hv))
     have Y:β.blk q.b=y.1:=by simp[Inj.blk,hy]
     let y':Nat×Nat×Nat:=(β.blk q.b,β.sh q.b+q.off,q.cap+β.ext q.b-(q.len+p.1))
     have hrow:j9 E.P β e (qS (old++p.2) 0) (Tr.ofList (old++p.2)) y'.2.1 y'.2.2 D fz:=by
      refine⟨?_,?_,by rw[s4];exact a2.thaw,by rw[g];exact Nat.dvd_add (by have:=a2.al;rwa[O,g]at this) (dvd_of_mod_eq_zero T)⟩
      .rw[s4,jE,length_append,f,I,g];have:(q.cap+β.ext q.b-(q.len+p.1))*i.size=(q.cap+β.ext q.b)*i.size-(q.len+p.1)*i.size:=Nat.sub_mul _ _ _;show β.sh q.b+q.off+(q.len*i.size+p.1*i.size)+(q.cap+β.ext q.b-(q.len+p.1))*i.size<=arr.size;omega
      .intro k v hv;rw[Tr.qc]at hv;refine⟨(zV _ _).1 o v (List.mem_of_getElem? hv),?_⟩;show D[β.sh q.b+q.off+k]?=_;rw[s5,zx,length_map];by_cases Q:k<old.length
       .rw[List.getElem?_append_left Q]at hv;rw[if_neg (by omega)];obtain⟨t1,t2⟩:=Tr.jx _ _ _ _ hold;have:=a2.cell (q.off+k) v (by rw[t2 k (by rw[f]at Q;exact Q)];exact hv);rw[<- this.2];congr 1;omega
       .rw[List.getElem?_append_right (by omega)]at hv;have hk3:=(List.getElem?_eq_some_iff.1 hv).1;rw[if_pos (by omega),List.getElem?_map];have:β.sh q.b+q.off+k-(β.sh q.b+q.off+q.len*i.size+0)=k-old.length:=by omega
        rw[this,hv];rfl
     obtain⟨b0,hb0,_⟩:=QR hr
     obtain⟨r1,r2⟩:=hR.rename (b':=.cells e (qS (old++p.2) 0) (Tr.ofList (old++p.2))) (y:=y') h60 hb0 hy Y (by rw[<- Y];exact s3)
      ⟨D,fz,by rw[<- O];exact s2,hrow.mono (Inj.kX (hR.fresh (Nat.le_refl _)))⟩
     refine⟨β.put H.next y',w',?_,⟨by simp[Inj.zL],Nat.le_refl _⟩,by rw[zT];exact r1,by rw[zT];exact r2⟩
     have e1:(β.addr q.b q.off).add (q.len*i.size)=⟨β.blk q.b,β.sh q.b+q.off+q.len*i.size,none⟩:=by
      rw[Inj.jF];simp[Inj.addr,Nat.add_assoc]
     rw[hcs,yW hE (w':=w') (base:=some (β.addr q.b q.off)) hd A hi a (by show(storeCells _ _).run _ _=_;rw[e1];exact s1) hge ty];simp only[zc,Bool.false_eq_true,if_false];congr 2
     .simp[Inj.addr,Inj.blk,Inj.sh,Inj.zL,y']
     .simp only[Inj.ext,Inj.zL,getD_some,y'];show q.cap+β.ext q.b=q.len+p.1+(q.cap+β.ext q.b-(q.len+p.1));omega
omit hE in
theorem Rel.zpk{P:Program}{β:Inj}{B:Tr zo}{id nx:Nat}{b b':zo}{w:World}(h:Rel P β ⟨Tr.set B id b,nx⟩ w)(hc:∀β x w,zH P β b x w->zH P β b' x w):Rel P β ⟨Tr.set B id b',nx⟩ w:=by
 have get:∀i c,(Tr.set B id b').get i=some c->∃c',(Tr.set B id b).get i=some c'/\∀x,zH P β c' x w->zH P β c x w:=by
  intro i c hb;rw[Tr.zK]at hb;rw[Tr.zK];split at hb
  .rename_i hi;cases hb;exact⟨_,if_pos hi,fun x hx=>hc _ _ _ hx⟩
  .rename_i hi;exact⟨c,by rw[if_neg hi];exact hb,fun _ hx=>hx⟩
 refine⟨h.base,fun i b x hb hx=>?_,fun i j b c x y hb hx hc hy e=>?_,h.bnd,fun i b hb=>?_⟩
 .obtain⟨b',hb',hr⟩:=get i b hb;exact hr x (h.blk i b' x hb' hx)
 .obtain⟨b',hb',_⟩:=get i b hb;obtain⟨d',hd',_⟩:=get j c hc;exact h.inj i j b' d' x y hb' hx hd' hy e
 .obtain⟨b',hb',_⟩:=get i b hb;exact h.live i b' hb'
omit hE in
theorem Ext.zpk{β γ:Inj}{H:Heap}{B:Tr zo}{id nx:Nat}{b b':zo}{w w':World}(h:Ext β H w γ ⟨Tr.set B id b,nx⟩ w')(hm:H.next<=id\/(100<=id/\(β id).isSome))(hb:100<=H.next):Ext β H w γ ⟨Tr.set B id b',nx⟩ w':=by
 have other:∀i,i≠id->(Tr.set B id b').get i=(Tr.set B id b).get i:=fun i hi=>by
  rw[Tr.zK,Tr.zK,if_neg (fun e=>hi e.symm),if_neg (fun e=>hi e.symm)]
 refine⟨h.old,h.next,fun i h1 h2=>?_,fun i c h1 h2=>?_,fun i h1=>?_,h.new,h.frame,h.size,h.tape,h.os,h.output⟩
 .have hne:i≠id:=by
   rintro rfl
   rcases hm with h3|⟨_,h3⟩
   .omega
   .rw[h2]at h3;cases h3
  exact(other i hne).trans (h.apart i h1 h2)
 .by_cases hi:i=id
  .subst hi;exact h.gone i b h1 (by show(Tr.set B i b).get i=some b;rw[Tr.zK,if_pos rfl])
  .exact h.gone i c h1 ((other i hi).symm.trans h2)
 .have hne:i≠id:=by
   rintro rfl
   rcases hm with h3|⟨h3,_⟩<;>omega
  exact(other i hne).trans (h.ro i h1)
def zgQ(β:Inj)(H H0 H':Heap):Prop:=
 H'=H0\/∃B id b b' nx,H0=⟨Tr.set B id b,nx⟩/\H'=⟨Tr.set B id b',nx⟩/\(∀(P:Program) (β:Inj) x w,zH P β b x w->zH P β b' x w)/\(H.next<=id\/(100<=id/\(β id).isSome))
omit hE in
theorem Sim.zlS{P:Program}{β:Inj}{H H0 H':Heap}{w:World}{m:Sem Value}{v:zb}(h:Sim P β H w m v H0)(hb:100<=H.next)(hs:zgQ β H H0 H'):Sim P β H w m v H':=by
 rcases hs with rfl|⟨B,id,b,b',nx,rfl,rfl,h1,h2⟩
 .exact h
 .obtain⟨β',w',r1,r2,r3,r4⟩:=h;exact⟨β',w',r1,r2,r3.zpk (h1 P),r4.zpk h2 hb⟩
omit hE in
theorem zdE{P:Program}{t:TypeId}{n:Nat}{c c':Tr zb}(h:∀i,c'.get i=c.get i){β:Inj}{x:Nat×Nat×Nat}{w:World}(hr:zH P β (.cells t n c) x w):zH P β (.cells t n c') x w:=by
 obtain⟨arr,fz,h1,h2⟩:=hr;exact⟨arr,fz,h1,h2.size,fun i v hv=>h2.cell i v (by rw[<- h];exact hv),h2.thaw,h2.al⟩
omit hE in
theorem zeL{P:Program}{t:TypeId}{n N:Nat}{c:Tr zb}(h:∀i,(unp n N).get i=c.get i){β:Inj}{x:Nat×Nat×Nat}{w:World}(hr:zH P β (.cells t n c) x w):zH P β (.pack t n N) x w:=zdE h hr
omit hE in
theorem zlt{β:Inj}{H H':Heap}{e:TypeId}{i:TypeInfo}{s v:zb}{n:Nat}{new:List zb}(h:zsi E H e i s n new=some (v,H')):∃H0,zau E H e i s n new=some (v,H0)/\zgQ β H H0 H':=by
 unfold zsi at h;unfold zau
 cases h1:kN s with
 | none=>rw[h1]at h;exact⟨H',h,.inl rfl⟩
 | some q=>
  rw[h1,zd]at h;rw[zd];rw[zl]at h ⊢;split at h
  .rename_i hc;rw[if_pos hc];exact⟨H',h,.inl rfl⟩
  .rename_i hc;rw[if_neg hc];obtain⟨h2,h⟩:=zg h;rw[h2,qK];obtain⟨B,k,c,c',e1,e2,e3⟩:=zlw h;exact⟨_,e2,.inr ⟨B,H.next,_,_,_,rfl,e1,fun P β x w hr=>zdE e3 hr,.inl (Nat.le_refl _)⟩⟩
theorem zdV{β:Inj}{H H':Heap}{w:World}(hR:Rel E.P β H w){o g:TypeId}{s x v:zb}(h:zjq E H o g s x=some (v,H'))(hs:WF β s)(hx:WF β x)(ty:TypeId) :
  Sim E.P β H w (Builtin.append_ #[o,g] ty #[zc β s,zc β x]) v H':=by
 obtain⟨d,hd,h⟩:=ze h;obtain⟨e,he,h⟩:=ze h;obtain⟨z,a,h⟩:=ze h;obtain⟨i,hi,h⟩:=ze h;obtain⟨p,hp,h⟩:=ze h;obtain⟨hl,h⟩:=zg h;obtain⟨H0,u,f⟩:=zlt (β:=β) h;refine(XO hE hR (v:=v) (H':=H0) ?_ hs hx ty).zlS hR.base f;unfold zax;rw[hd,qw,he,qw,a,qw,hi,qw,hp,qw,hl,qK];exact u
omit hE in
theorem zfm:∀ {cs:List zb}{l:List Nat},QP cs=some l->cs=l.map u8/\∀b∈l,b<256
 | [],l,h=>by
  have h:some ([]:List Nat)=some l:=h
  cases h;exact⟨rfl,by simp⟩
 | v::cs,l,h=>by
  have h:(bnd (Uu v) fun b=>bnd (QP cs) fun m=>some (b::m))=some l:=(Ys Uu v cs).symm.trans h;obtain⟨b,hb,h⟩:=ze h;obtain⟨m,hm,h⟩:=ze h;cases h;obtain⟨p,hp,hb⟩:=ze hb;obtain rfl:=jr hp;obtain⟨hu,hb⟩:=zg hb;obtain⟨n,hn,hb⟩:=jj hb;obtain⟨hl,hb⟩:=zg hb;cases hb;rw[zN,decide_eq_true_eq]at hl;obtain⟨e1,e2⟩:=zfm hm;refine⟨by rw[map_cons,WV hu,hn,e1];rfl,fun x hx=>?_⟩;rcases List.mem_cons.1 hx with rfl|hx
  .exact hl
  .exact e2 x hx
structure Z1(bs:List Nat)(n N:Nat):Prop where
 len:bs.length=n
 byte:∀b∈bs,b<256
 lt:N<2 ^ (8*n)
 at_:∀i,i<n->bs[i]?=some (byteOf N i)
omit hE in
theorem Z1.XL{bs:List Nat}(h:∀b∈bs,b<256):Z1 bs bs.length (XL bs 0 0):=by
 obtain⟨h1,h2⟩:=zhU bs 0 0 h (by decide);rw[Nat.zero_add]at h1;refine⟨rfl,h,h1,fun i hi=>?_⟩;have:=h2 i;rw[if_neg (by omega),Nat.sub_zero,List.getElem?_eq_getElem hi]at this;rw[List.getElem?_eq_getElem hi];exact congrArg some this.symm
omit hE in
theorem Z1.cat{as bs:List Nat}{n m S M:Nat}(h1:Z1 as n S)(h2:Z1 bs m M):Z1 (as++bs) (n+m) (zao n S M):=by
 refine⟨by rw[length_append,h1.len,h2.len],fun b hb=>?_,?_,fun i hi=>?_⟩
 .rcases List.mem_append.1 hb with hb|hb
  .exact h1.byte b hb
  .exact h2.byte b hb
 .rw[zbR,show 8*(n+m)=8*n+8*m from by omega,Nat.pow_add];have h3:M+1<=2 ^ (8*m):=h2.lt;have h4:=mul_le_mul_left (2 ^ (8*n)) h3;have h5:=h1.lt;rw[Nat.mul_add,Nat.mul_one,Nat.mul_comm _ M]at h4;omega
 .rw[XE h1.lt];by_cases hn:i<n
  .rw[if_pos hn,List.getElem?_append_left (by rw[h1.len];exact hn)];exact h1.at_ i hn
  .rw[if_neg hn,List.getElem?_append_right (by rw[h1.len];omega),h1.len];exact h2.at_ _ (by omega)
omit hE in
theorem Z1.get{bs:List Nat}{n N:Nat}(h:Z1 bs n N)(i:Nat):(unp n N).get i=(Tr.ofList (bs.map u8)).get i:=by
 rw[Ye,Tr.qc,List.getElem?_map];by_cases hi:i<n
 .rw[if_pos hi,h.at_ i hi];rfl
 .rw[if_neg hi,List.getElem?_eq_none (by rw[h.len];omega)];rfl
omit hE in
theorem Z1.ok{bs:List Nat}:Q0 yS (bs.map u8)=true:=by
 rw[ZX,List.all_eq_true];intro v hv;obtain⟨b,_,rfl⟩:=List.mem_map.1 hv;rfl
omit hE in
theorem zka{H:Heap}{q:Sl}{p:Nat×Nat}(h:pvS H q=some p):p.1=q.len/\∃bs,Z1 bs q.len p.2/\H.kM q.b q.off q.len=some (bs.map u8):=by
 unfold pvS at h;obtain⟨b,hb,h⟩:=ze h
 cases hp:zgA b with
 | none=>
  rw[hp,zm]at h;obtain⟨l,hl,h⟩:=ze h;obtain⟨bs,hbs,h⟩:=ze h;cases h;obtain⟨e1,e2⟩:=zfm hbs;subst e1
  have hlen:bs.length=q.len:=by
   unfold Heap.kM at hl;obtain⟨r,hr,hl⟩:=ze hl;have:=(Tr.jx _ _ _ _ hl).1;rwa[length_map]at this
  have:=Z1.XL e2;rw[hlen]at this
  exact⟨rfl,bs,this,hl⟩
 | some k=>
  rw[hp,zd]at h;obtain⟨hle,h⟩:=zg h;cases h;rw[zG,decide_eq_true_eq]at hle;have hle:q.off+q.len<=k.n:=hle;have hbk:b = .pack k.t k.n k.N:=by cases b<;>cases hp;rfl
  subst hbk;have hrow:H.row q.b=some ⟨k.t,k.n,unp k.n k.N⟩:=by unfold Heap.row;rw[hb];rfl
  obtain⟨l,hl⟩:=ze3 q.len (unp k.n k.N) q.off fun i hi=>⟨_,by rw[Ye,if_pos (by omega)]⟩
  obtain⟨l1,l2⟩:=Tr.jx _ _ _ _ hl;refine⟨rfl,unpL q.len (Y7 k.N q.off q.len),⟨unpL_length _ _,unpL_lt _ _,sub_lt _ _ _,fun i hi=>unpL_get hi⟩,?_⟩;unfold Heap.kM;rw[hrow,qw,hl];congr 1
  refine List.ext_getElem? fun i=>?_;rw[List.getElem?_map];by_cases hi:i<q.len
  .rw[<- l2 i hi,Ye,if_pos (by omega),unpL_get hi,V9 hi];rfl
  .rw[List.getElem?_eq_none (by omega),List.getElem?_eq_none (by rw[unpL_length];omega)];rfl
omit hE in
theorem zyn{β:Inj}{H:Heap}{x:zb}{p:Nat×Nat}(h:pv H x=some p)(hx:WF β x):∃bs,Z1 bs p.1 p.2/\yU H 1 x=some (p.1,bs.map u8):=by
 unfold pv at h;unfold yU
 cases h1:kN x with
 | some q=>
  rw[h1,zd]at h;rw[zd];obtain⟨e1,bs,e2,e3⟩:=zka h;rw[e1];refine⟨bs,e2,?_⟩;rw[show Nat.mul q.len 1=q.len from Nat.mul_one _,e3]
  rfl
 | none=>
  rw[h1,zm,zl]at h;rw[zm];split at h
  .rename_i h2;obtain rfl:=jB h2;cases h;exact⟨[],⟨rfl,by simp,by decide,fun i hi=>by omega⟩,rfl⟩
  .obtain⟨s,hs,h⟩:=ze h;cases h;obtain rfl:=qG hs;have hw:∀b∈s,b<256:=hx;refine⟨s,by rw[jE];exact Z1.XL hw,?_⟩;show some (qS s 0,mapA u8 s)=_;rw[jn]
theorem zwE{e:TypeId}{i:TypeInfo}(h1:i.size=1)(h2:i.bytes=1){x:zb}{p:Nat×Nat}(h:pvN E e x=some p):∃bs,Z1 bs p.1 p.2/\zoJ E e i x=some (p.1,bs.map u8):=by
 unfold pvN at h;obtain⟨q,hq,h⟩:=ze h;obtain⟨o,h⟩:=zg h;obtain⟨n,hn,h⟩:=jj h;obtain⟨f,h⟩:=zg h;obtain⟨z,g,h⟩:=ze h;obtain⟨hv,h⟩:=zg h;cases h;have d:=zM _ _ hv;subst d
 have a:∀n,Q9 (zO (u8 0)) n=(List.replicate n 0).map u8:=by
  intro n
  induction n with
  | zero=>rfl
  | succ n ih=>
   have e:Q9 (zO (u8 0)) (n+1)=zP (zO (u8 0)) (Q9 (zO (u8 0)) n):=rfl;rw[e,zT,ih,List.replicate_succ,map_cons];rfl
 have hb:∀b∈List.replicate n 0,b<256:=by
  intro b hb;rw[(List.mem_replicate.1 hb).2];decide
 refine⟨List.replicate n 0,⟨length_replicate,hb,Nat.pow_pos (by decide),fun i hi=>?_⟩,?_⟩
 .have hi:i<n:=hi;rw[List.getElem?_replicate,if_pos hi,jU,Nat.zero_div]
 .unfold zoJ;rw[hq,qw,o,qK,hn];show ifB (roomy n i.bytes) _ none=_;rw[h2,f,qK,g,qw,h1,<- a];rfl
omit hE in
theorem VK{H2 H':Heap}{e:TypeId}{n N:Nat}{v:zb}{bs:List Nat}(h:KF H2 e n N=some (v,H'))(hb:Z1 bs n N) :
  ∃b b',QZ H2 e n (bs.map u8)=some (v,⟨Tr.set H2.blk H2.next b,H2.next+1⟩)/\H'=⟨Tr.set H2.blk H2.next b',H2.next+1⟩/\∀(P:Program) (β:Inj) x w,zH P β b x w->zH P β b' x w:=by
 unfold KF at h;simp only[zY]at h;cases h;refine⟨.cells e n (Tr.ofList (bs.map u8)),.pack e n N,?_,rfl,fun P β x w hr=>zeL hb.get hr⟩;unfold QZ;rw[Z1.ok,qK,zY];show some (zb.slice H2.next 0 n n false,Heap.new ⟨H2.blk,H2.next⟩ e (bs.map u8))=_;unfold Heap.new;rw[jE,length_map,hb.len]
theorem znM{β:Inj}{H H':Heap}{e:TypeId}{i:TypeInfo}(h1:i.size=1)(h2:i.bytes=1)(J:yi E e 1=true){s v:zb}(hs:WF β s){p:Nat×Nat}{bs:List Nat}(hp:Z1 bs p.1 p.2)(h:zkh H e s p=some (v,H')) :
  ∃H0,zau E H e i s p.1 (bs.map u8)=some (v,H0)/\zgQ β H H0 H':=by
 unfold zkh at h;unfold zau
 cases hq:kN s with
 | none=>
  rw[hq,zm]at h;obtain⟨hn,h⟩:=zg h;obtain⟨m,hm,h⟩:=YE h;obtain⟨z,h⟩:=zg h;obtain⟨b,b',A,k2,k3⟩:=VK h hp;refine⟨⟨Tr.set H.blk H.next b,H.next+1⟩,?_,.inr ⟨H.blk,H.next,b,b',_,rfl,k2,k3,.inl (Nat.le_refl _)⟩⟩;rw[zm,hn,qK];have e1:∀f:Nat->R,qW p.1 (some (zb.nilslice,H)) f=f m:=fun f=>by rw[hm];rfl
  rw[e1,h1,h2,J,z]
  exact A
 | some q=>
  rw[hq,zd,zl]at h;rw[zd,zl];have d:=h;clear h;obtain rfl:=jP hq;split at d
  .rename_i hc;rw[if_pos hc];unfold zp7 at d;obtain⟨b,hb,d⟩:=ze d;obtain⟨k,K,d⟩:=ze d;rw[zY]at d;obtain⟨D,d⟩:=zg d;simp only[zY]at d;cases d;have hbk:b = .pack k.t k.n k.N:=by cases b<;>cases K;rfl
   subst hbk;rw[zk,Bool.and_eq_true,zG,zG,decide_eq_true_eq,decide_eq_true_eq]at D;obtain⟨h60,hle⟩:=D;have hle:q.off+q.len+p.1<=k.n:=hle;have hrow:H.row q.b=some ⟨k.t,k.n,unp k.n k.N⟩:=by unfold Heap.row;rw[hb];rfl
   refine⟨H.put q.b ⟨k.t,k.n,unp k.n k.N⟩ (Tr.zns (bs.map u8) (unp k.n k.N) (q.off+q.len)),?_,.inr ⟨H.blk,q.b,_,_,H.next,rfl,rfl,fun P β x w hr=>zeL (fun j=>?_) hr,.inr ⟨h60,hs.1⟩⟩⟩
   .unfold zsj Heap.Jv;rw[h1,hrow,qw];have e1:Nat.add q.off (Nat.mul q.len 1)=q.off+q.len:=by show q.off+q.len*1=_;rw[Nat.mul_one]
    have e2:zn (Nat.ble 100 q.b) (zn (Nat.ble (Nat.add (q.off+q.len) (qS (bs.map u8) 0)) k.n) (Q0 yS (bs.map u8)))=true:=by
     rw[Z1.ok,jE,length_map,hp.len,zk,zk,zG,zG,decide_eq_true h60];simp only[Bool.and_true,Bool.true_and,decide_eq_true_eq];exact hle
    rw[e1,e2,qK,qw];rfl
   .rw[Ye,Tr.zde,length_map,hp.len,Ye];have O:Y7 k.N 0 (q.off+q.len)<2 ^ (8*(q.off+q.len)):=sub_lt _ _ _;by_cases C:j<k.n
    .rw[if_pos C];have Q:byteOf (zao (Nat.add q.off q.len) (Y7 k.N 0 (Nat.add q.off q.len)) (zao p.1 p.2 (Nat.shiftRight k.N (Nat.mul 8 (Nat.add (Nat.add q.off q.len) p.1))))) j=if j<q.off+q.len then byteOf (Y7 k.N 0 (q.off+q.len)) j else byteOf (zao p.1 p.2 (Nat.shiftRight k.N (8*(q.off+q.len+p.1)))) (j-(q.off+q.len)):=XE O
     rw[Q];by_cases G:j<q.off+q.len
     .rw[if_pos G,if_neg (by omega),if_pos C,V9 G,Nat.zero_add]
     .rw[if_neg G,XE hp.lt];by_cases hm2:j-(q.off+q.len)<p.1
      .rw[if_pos hm2,if_pos (by omega),List.getElem?_map,hp.at_ _ hm2];rfl
      .rw[if_neg hm2,if_neg (by omega),if_pos C,Ka];congr 4;omega
    .rw[if_neg C,if_neg (by omega),if_neg C]
  .rename_i hc;rw[if_neg hc];obtain⟨z,d⟩:=zg d;obtain⟨a,L,d⟩:=ze d;rw[zY]at d;obtain⟨_,as,I,o⟩:=zka L;have u:=I.cat hp;rw[h1,h2,J,z];show ∃H0,ZW H e 1 q p.1 (bs.map u8)=some (v,H0)/\_;unfold Heap.kM at o;obtain⟨r,hr,o⟩:=ze o;unfold ZW;rw[hr,qw,show Nat.mul q.len 1=q.len from Nat.mul_one _,o,qw,zT,<- List.map_append];rw[zl]at d ⊢;split at d
   .rename_i hx;rw[if_pos hx];obtain⟨b,b',A,k2,k3⟩:=VK d u;exact⟨_,A,.inr ⟨H.blk,H.next,b,b',_,rfl,k2,k3,.inl (Nat.le_refl _)⟩⟩
   .rename_i hx;rw[if_neg hx];rw[hr,qw]at d;obtain⟨g,d⟩:=zg d;obtain⟨b,b',A,k2,k3⟩:=VK d u;refine⟨_,?_,.inr ⟨H.blk.del q.b,H.next,b,b',_,rfl,k2,k3,.inl (Nat.le_refl _)⟩⟩
    have e3:zn (Nat.ble 100 q.b) (zn (Nat.beq r.t e) (zn (Nat.beq (Nat.mod q.off 1) 0) (Nat.beq (Nat.add q.off (Nat.mul q.cap 1)) r.n)))=true:=by
     simp only[zk,Bool.and_eq_true]at g ⊢;refine⟨g.1,g.2.1,?_,?_⟩
     .rw[zu,beq_iff_eq];exact mod_one _
     .rw[show Nat.mul q.cap 1=q.cap from Nat.mul_one _];exact g.2.2
    rw[e3,qK];exact A
theorem zd5{β:Inj}{H H':Heap}{w:World}(hR:Rel E.P β H w){z u:TypeId}{s x v:zb}(h:zfZ E H z u s x=some (v,H'))(hs:WF β s)(hx:WF β x)(ty:TypeId) :
  Sim E.P β H w (Builtin.append_ #[z,u] ty #[zc β s,zc β x]) v H':=by
 obtain⟨d,hd,h⟩:=ze h;obtain⟨e,he,h⟩:=ze h;obtain⟨A,g,h⟩:=ze h;obtain⟨i,hi,h⟩:=ze h;obtain⟨K,D,h⟩:=ze h;obtain⟨k,J,h⟩:=ze h;obtain⟨hc,h⟩:=zg h;simp only[zk,Bool.and_eq_true,zu,beq_iff_eq]at hc;obtain⟨_,h1,h2,C⟩:=hc;obtain⟨p,hp,h⟩:=ze h
 have a:∃bs,Z1 bs p.1 p.2/\ifB (isInt A) (zoJ E e i x) (yU H i.size x)=some (p.1,bs.map u8):=by
  rw[zl]at hp ⊢;split at hp
  .rename_i f;rw[if_pos f];exact zwE hE h1 h2 hp
  .rename_i f;rw[if_neg f,h1];exact zyn hp hx
 obtain⟨bs,hb,a⟩:=a;obtain⟨H0,G,o⟩:=znM hE h1 h2 C hs hb h;refine(XO hE hR (v:=v) (H':=H0) ?_ hs hx ty).zlS hR.base o;unfold zax;rw[hd,qw,he,qw,g,qw,hi,qw,a,qw]
 have I:Nat.beq (qS (bs.map u8) 0) (Nat.mul p.1 i.size)=true:=by
  rw[jE,length_map,hb.len,h1,zu,beq_iff_eq];exact(Nat.mul_one _).symm
 rw[I,qK];exact G
end
end
noncomputable section
variable[Unk]
def u8s(s:ByteArray):List zb:=mapA u8 (zA s)
theorem u8s_conc(β:Inj)(s:ByteArray):zf β (u8s s)=s.data.toList.map fun b=>Value.int .u8 b.toNat:=by
 have h:=UM (zA s) (WG s) β;rw[kz]at h;have:=congrArg Array.toList h;simpa[u8s] using this.symm
theorem u8s_length(s:ByteArray):(u8s s).length=s.size:=by
 have:=congrArg List.length (u8s_conc (fun _=>none) s);rw[zx,length_map,length_map]at this;exact this
theorem u8s_ok(s:ByteArray):∀v∈u8s s,yS v=true:=by
 intro v hv;simp only[u8s,jn,List.mem_map]at hv;obtain⟨b,_,rfl⟩:=hv;rfl
theorem u8s_get(β:Inj)(s:ByteArray)(j:Nat):(zf β (u8s s))[j]?=(s.data[j]?).map fun b=>Value.int .u8 b.toNat:=by
 rw[u8s_conc,List.getElem?_map,getElem?_toList]
theorem u8s_append(s t:ByteArray):u8s (s++t)=u8s s++u8s t:=by
 simp[u8s,zA]
theorem znl{P:Program}{β:Inj}{H:Heap}{w:World}(hR:Rel P β H w){b:Nat}{t:TypeId}{v:zb}(h:H.blk.get b=some (.text t v))(hb:(β b).isSome){s:ByteArray}(hs:zc β v = .string s) :
  (loadCells (β.addr b 0) s.size).run P w = .ok (zf β (u8s s)).toArray w:=by
 obtain⟨arr,fz,h1,h2⟩:=hR.zjE h hb
 have:=run_loadCells_list (P:=P) (w:=w) (β.addr b 0) (zf β (u8s s)) (by
  intro j x hj;rw[u8s_get]at hj
  cases hd:s.data[j]? with
  | none=>rw[hd]at hj;cases hj
  | some c=>
   rw[hd]at hj;cases hj;have h3:=h2.cell j c (by rw[hs];exact hd);rw[Inj.jF,Inj.addr,cell_of h1,Nat.zero_add]
   exact h3)
 rw[zx,length_map,u8s_length,<- zx]at this;exact this
theorem zbk:∀ {cs:List zb}{l:List Nat},QP cs=some l->cs=l.map (fun n=>.int .u8 (.ofNat n))/\∀b∈l,b<256
 | [],l,h=>by
  have h:some ([]:List Nat)=some l:=h
  cases h;exact⟨rfl,by simp⟩
 | v::cs,l,h=>by
  have h:(bnd (Uu v) fun b=>bnd (QP cs) fun m=>some (b::m))=some l:=(Ys Uu v cs).symm.trans h;obtain⟨b,hb,h⟩:=ze h;obtain⟨m,hm,h⟩:=ze h;cases h;obtain⟨p,hp,hb⟩:=ze hb;obtain rfl:=jr hp;obtain⟨a,hb⟩:=zg hb;obtain⟨n,hn,hb⟩:=jj hb;obtain⟨hl,hb⟩:=zg hb;cases hb;rw[zN,decide_eq_true_eq]at hl;obtain⟨e1,e2⟩:=zbk hm;refine⟨by rw[map_cons,WV a,hn,e1],fun x hx=>?_⟩;rcases List.mem_cons.1 hx with rfl|hx
  .exact hl
  .exact e2 x hx
theorem za4{v:zb}(h:Uc v=true):v = .str []:=by
 have h:zh (jm v) false (fun s=>lC s true fun _ _=>false)=true:=h
 cases hv:jm v with
 | none=>rw[hv]at h;cases h
 | some s=>
  rw[hv,zd]at h
  cases s with
  | nil=>exact qG hv
  | cons a l=>cases h
theorem zsR:str [] = .empty:=rfl
theorem empty_append(s:ByteArray):ByteArray.empty++s=s:=by simp
theorem zp1{H:Heap}{q:Sl}{l:List Nat}(h:pkL H q=some l):(∀b∈l,b<256)/\l.length=q.len/\H.kM q.b q.off q.len=some (l.map u8):=by
 unfold pkL at h;obtain⟨b,hb,h⟩:=ze h;obtain⟨k,a,h⟩:=ze h;obtain⟨hle,h⟩:=zg h;rw[zY]at h;cases h
 have hp:pvS H q=some (q.len,Y7 k.N q.off q.len):=by
  unfold pvS;rw[hb,qw,a,zd,hle,qK]
 obtain⟨_,bs,h1,h2⟩:=zka hp
 have:bs=unpL q.len (Y7 k.N q.off q.len):=by
  refine List.ext_getElem? fun i=>?_;by_cases hi:i<q.len
  .rw[h1.at_ i hi,unpL_get hi]
  .rw[List.getElem?_eq_none (by rw[h1.len];omega),List.getElem?_eq_none (by rw[unpL_length];omega)]
 rw[this]at h2;exact⟨unpL_lt _ _,unpL_length _ _,h2⟩
theorem zev{E:Env}{β:Inj}(hF:zC E β){H:Heap}{s:Sl}{v:zb}
  (h:(zh (pkL H s) (ifB (Nat.beq s.len 0) (some (.str [])) (bnd (H.kM s.b s.off s.len) fun cs=>zh (QP cs) (findF (zmn cs) E.facts) fun l=>some (.str l))) fun l=>some (.str l))=some v) :
  (s.len=0/\v = .str [])\/∃cs,H.kM s.b s.off s.len=some cs/\∃u,WF β v/\zc β v = .string u/\zf β cs=u.data.toList.map fun b=>Value.int .u8 b.toNat:=by
 cases hq:pkL H s with
 | some l=>
  rw[hq,zd]at h;cases h;obtain⟨e1,_,m⟩:=zp1 hq;refine .inr ⟨_,m,str l,e1,rfl,?_⟩;have:=congrArg Array.toList (UM l e1 β);rw[Array.toList_map]at this
  rw[this,jn]
 | none=>
  rw[hq,zm,zl]at h;split at h
  .rename_i a;rw[zu,beq_iff_eq]at a;cases h;exact .inl ⟨a,rfl⟩
  .obtain⟨cs,hl,h⟩:=ze h;refine .inr ⟨cs,hl,?_⟩
   cases hb:QP cs with
   | some l=>
    rw[hb,zd]at h;cases h;obtain⟨e1,e2⟩:=zbk hb;refine⟨str l,e2,rfl,?_⟩;have:=UM l e2 β;have:=congrArg Array.toList this;rw[Array.toList_map]at this;rw[this,e1,jn]
    rfl
   | none=>
    rw[hb,zm]at h;obtain⟨f,d,e⟩:=qu h;obtain rfl:=zqS e;obtain⟨g1,k,u,i,g⟩:=hF _ d;exact⟨u,k,i,g⟩
section
variable{E:Env}(hE:yg E)
include hE
theorem Y5{β:Inj}(hF:zC E β){H:Heap}{w:World}(hR:Rel E.P β H w){x v:zb}(h:Y6 E H x=some v)(hx:WF β x) :
  WF β v/\∃s,zc β v = .string s/\(Builtin.lenOf (zc β x)).run E.P w = .ok s.size w/\∀w',Alike w w'->(Builtin.firstCells 1 s.size (zc β x)).run E.P w' = .ok (zf β (u8s s)).toArray w':=by
 have _:=hE;unfold Y6 at h
 cases h1:QQ x with
 | some p=>
  rw[h1,zd]at h;obtain rfl:=JO h1;replace h:=ze h;obtain⟨b,hb,h⟩:=h;replace h:=ze h;obtain⟨q,hq,h⟩:=h;obtain rfl:=Vb hq;replace h:=zg h;obtain⟨hv,h⟩:=h;cases h;have hv:=zM _ _ hv;obtain⟨n,m,s,d,A⟩:=hx;refine⟨m,s,d,by simp[Builtin.lenOf,zc,d,sOf],fun w' a=>?_⟩;have:=znl (hR.alike a) hb n (by rw[hv];exact d)
  simp[Builtin.firstCells,zc,this]
 | none=>
  rw[h1,zm]at h
  cases h2:kN x with
  | some s=>
   rw[h2,zd]at h;obtain rfl:=jP h2;rcases zev hF h with⟨l,rfl⟩|⟨cs,hl,key⟩
   .refine⟨by simp[WF],.empty,rfl,by simp[Builtin.lenOf,zc,l],fun w' _=>?_⟩;have:(zf β (u8s ByteArray.empty)).toArray = #[]:=rfl;rw[this];simp[Builtin.firstCells,zc,loadCells,loadCellsFrom]
   .obtain⟨u,g,k2,k3⟩:=key;obtain⟨g1,z,o⟩:=hR.kM hl hx.1
    have hlen:u.size=s.len:=by
     have:=congrArg List.length k3;rw[zx,length_map,length_map,g1]at this;exact this.symm
    refine⟨g,u,k2,by simp[Builtin.lenOf,zc,hlen],fun w' a=>?_⟩;have:=((hR.alike a).kM hl hx.1).2.2;rw[u8s_conc,<- k3]
    simp[Builtin.firstCells,zc,hlen,this]
  | none=>
   rw[h2,zm,zl]at h;split at h
   .rename_i h3;obtain rfl:=jB h3;cases h;refine⟨by simp[WF],.empty,rfl,by simp[Builtin.lenOf,zc],fun w' _=>?_⟩;have:(zf β (u8s ByteArray.empty)).toArray = #[]:=rfl;rw[this];simp[Builtin.firstCells,zc]
   .have key:v=x/\∃s,zc β x = .string s:=by
     rw[zl]at h;split at h
     .replace h:=ze h;obtain⟨r,i,h⟩:=h;cases h;obtain⟨f,k,e⟩:=qu i;obtain rfl:=WM e;obtain⟨_,_,s,e1,_⟩:=hF _ k;exact⟨rfl,s,e1⟩
     .replace h:=ze h;obtain⟨s,hs,h⟩:=h;cases h;have:=qG hs;exact⟨rfl,str s,by rw[this];rfl⟩
    obtain⟨rfl,s,hs⟩:=key;refine⟨hx,s,hs,by simp[Builtin.lenOf,hs],fun w' _=>?_⟩;have e:s.extract 0 s.size=s:=by simp
    rw[u8s_conc];simp only[Builtin.firstCells,hs,e,Sem.run_pure];congr 1
    apply Array.toList_inj.1;simp
theorem zjl{β:Inj}{a b c:zb}{s t:ByteArray}(h:zq E.P E.tabs β (.bin .add a b c))(e:zc β a = .string s)(hb:zc β b = .string t):WF β c/\zc β c = .string (s++t):=by
 have _:=hE;obtain⟨_,_,h3,_,f⟩:=h;refine⟨h3,?_⟩
 have d:(Op.stringOp .add s t).run E.P default = .ok (zc β c) default:=by
  have:=f 0 default;rw[e,hb]at this;exact this
 simp only[Op.stringOp]at d;split at d
 .cases d
 .exact(Result.ok.inj d).1.symm
theorem zld{β:Inj}(hF:zC E β){a b c:zb}{s t:ByteArray}(h:zu4 E a b=some c)(i:WF β a)(g:WF β b)(d:zc β a = .string s)(hb:zc β b = .string t):WF β c/\zc β c = .string (s++t):=by
 unfold zu4 at h;rw[zl]at h;split at h
 .rename_i n;obtain rfl:=za4 n;cases h;cases d;exact⟨g,by rw[hb,zsR,empty_append]⟩
 .have fact:∀ {c:zb},findF (zcS .add a b) E.facts=some c->WF β c/\zc β c = .string (s++t):=by
   intro c h;obtain⟨f,k,e⟩:=qu h;exact zjl hE (show zq E.P E.tabs β (.bin .add a b c) from WN e (hF _ k)) d hb
  cases h1:jm a with
  | none=>rw[h1,zm]at h;exact fact h
  | some l=>
   rw[h1,zd]at h
   cases h2:jm b with
   | none=>rw[h2,zm]at h;exact fact h
   | some m=>
    rw[h2,zd]at h;cases h;have e1:=qG h1;have e2:=qG h2;subst e1 e2;cases d;cases hb;refine⟨fun x hx=>?_,by rw[zc,zT,VA]⟩;rw[zT]at hx;rcases List.mem_append.1 hx with hx|hx
    .exact i x hx
    .exact g x hx
theorem zaG{β:Inj}(hF:zC E β){v:zb}{s:ByteArray}(h:zhr E v=true)(hv:zc β v = .string s):0<s.size:=by
 have _:=hE;unfold zhr at h
 cases h1:jm v with
 | some l=>
  rw[h1,zd]at h;obtain rfl:=qG h1;cases hv
  cases l with
  | nil=>cases h
  | cons a l=>rw[qm];exact succ_pos _
 | none=>
  rw[h1,zm]at h
  cases h2:findF (mEq 2 v (.str [])) E.facts with
  | none=>rw[h2]at h;cases h
  | some r=>
   rw[h2,zd,qI]at h;obtain⟨f,k,e⟩:=qu h2;obtain rfl:=zkA e;obtain⟨_,_,h3⟩:=hF _ k;rcases h3 with⟨h3,_⟩|⟨_,o,n,e1,e2,m⟩|⟨h3,_⟩
   .cases h3
   rotate_left
   .cases h3
   .rw[hv]at e1;cases e1;cases e2;subst m;have g:s≠str []:=by simpa using h
    rcases eq_zero_or_pos s.size with i|i
    .exfalso;apply g;obtain⟨⟨d⟩⟩:=s;have:d.length=0:=i;rw[length_eq_zero_iff]at this;subst this;rfl
    .exact i
theorem zfM{β:Inj}(hF:zC E β){v:zb}{s:ByteArray}(h:zfN E v=true)(hv:zc β v = .string s):s.size<=1000000000:=by
 have _:=hE;unfold zfN at h
 cases h1:jm v with
 | some l=>
  rw[h1,zd,zG,decide_eq_true_eq,jE]at h;obtain rfl:=qG h1;cases hv
  rw[qm];exact h
 | none=>
  rw[h1,zm]at h
  cases h2:findF (zd8 v) E.facts with
  | none=>rw[h2]at h;cases h
  | some l=>
   rw[h2,zd]at h;obtain⟨f,d,e⟩:=qu h2;obtain rfl:=WM e;obtain⟨_,_,k,e1,e2⟩:=hF _ d;rw[hv]at e1;cases e1
   cases h3:asInt l with
   | some p=>
    rw[h3,zd,qI,yu]at h;obtain rfl:=jr h3;simp only[zc]at e2;injection e2 with _ e2;have h:¬((Int.ofNat 1000000000)<p.2):=by simpa using h
    rw[e2]at h;have h:¬((1000000000:Int)<(s.size:Int)):=h
    omega
   | none=>
    rw[h3,zm]at h
    cases i:findF (zcS .gtr l (.int .i64 (.ofNat 1000000000))) E.facts with
    | none=>rw[i]at h;cases h
    | some r=>
     rw[i,zd]at h;obtain⟨f,d,e⟩:=qu i;obtain⟨_,_,_,_,a⟩:=WN e (hF _ d);have a:=a 0 default;rw[e2]at a
     cases g:asBool r with
     | none=>rw[g]at h;cases h
     | some b=>
      rw[g,zd,qI]at h;obtain rfl:=Qv g;have a:(Go.binOp .gtr 0 (.int .i64 (s.size:Nat)) (.int .i64 1000000000)).run E.P default = .ok (.bool b) default:=a;simp[Go.binOp,Op.intCmp]at a;have hb:b=false:=by simpa using h
      rw[hb]at a;have a:=of_decide_eq_false a;omega
theorem Rel.newText{P:Program}{β:Inj}{H:Heap}{w:World}(hR:Rel P β H w){e:TypeId}{c:zb}{s:ByteArray}{extra:List Value}(d:WF β c)(hc:zc β c = .string s)(f:qX P e=1)(fz:Nat×Nat)
  (hf:∀i,i<s.size+extra.length->¬(fz.1<=i/\i<fz.2)) :
  Rel P (β.put H.next (w.heap.size,0,s.size+extra.length)) ⟨H.blk.set H.next (.text e c),H.next+1⟩ (push w (.cells (zf β (u8s s)++extra).toArray e fz)) /\
  Ext β H w (β.put H.next (w.heap.size,0,s.size+extra.length)) ⟨H.blk.set H.next (.text e c),H.next+1⟩ (push w (.cells (zf β (u8s s)++extra).toArray e fz)):=by
 have _:=hE;have hl:(zf β (u8s s)).length=s.size:=by rw[zx,length_map,u8s_length]
 refine hR.add _ _ _ ⟨_,fz,yo _ _,ZY.mono ⟨d,⟨s,hc,le_add_right _ _⟩,?_,?_,?_,f⟩ (Inj.kX (hR.fresh (Nat.le_refl _)))⟩
 .simp[hl]
 .intro i b hb;rw[hc]at hb;have a:=(Array.getElem?_eq_some_iff.1 hb).1;have a:i<s.size:=a;rw[Nat.zero_add,getElem?_toArray,List.getElem?_append_left (by rw[hl];exact a),u8s_get];have hb:s.data[i]?=some b:=hb;rw[hb];rfl
 .intro i hi;exact hf i (by simpa[hl] using hi)
theorem zbx{β:Inj}{H:Heap}{c:zb}{s:ByteArray}{x:Nat×Nat×Nat}(a:WF β c)(hc:zc β c = .string s)(f:β H.next=none)(hx:s.size<=x.2.2) :
  WF (β.put H.next x) (.osl H.next c)/\zc (β.put H.next x) (.osl H.next c) = .slice (some ⟨x.1,x.2.1,none⟩) s.size x.2.2:=by
 have _:=hE;obtain⟨g,d⟩:=WF.mono (Inj.kX (x:=x) f) _ a;have e:(β.put H.next x) H.next=some x:=Inj.zL _ _ _;refine⟨⟨by rw[e];rfl,g,s,by rw[d];exact hc,by simp[Inj.ext,e];exact hx⟩,?_⟩;simp only[zc,d,hc,sOf];simp[Inj.addr,Inj.blk,Inj.sh,Inj.ext,e]
theorem zoI{β:Inj}{H d:Heap}{w:World}(a:Rel E.P β d w)(m:Ext β H w β d w)(hn:d.next=H.next){r p e:TypeId}{o:TypeDesc}{i:TypeInfo}{base:Option Addr}{sCap:Nat}{x c:zb}{s t:ByteArray}
  (hs:E.desc r=some (.slice e)) (hxd:E.desc p=some o) (hni:isInt o=false) (hi:E.types.get e=some i) (hi1:i.size=1) (hb1:i.bytes=1) (g:yi E e 1=true) (hts:qX E.P e=1)
  (hlen:(Builtin.lenOf (zc β x)).run E.P w = .ok t.size w) (hnew:∀w',Alike w w'->(Builtin.firstCells 1 t.size (zc β x)).run E.P w' = .ok (zf β (u8s t)).toArray w')
  (hold:∀w',Alike w w'->(Builtin.firstCells 1 s.size (.slice base s.size sCap)).run E.P w' = .ok (zf β (u8s s)).toArray w')
  (hwc:WF β c) (hc:zc β c = .string (s++t)) (hroom:(s++t).size<=1000000000) (hcap:sCap<s.size+t.size) (ty:TypeId) :
  Sim E.P β H w (Builtin.append_ #[r,p] ty #[.slice base s.size sCap,zc β x]) (.osl H.next c) ⟨d.blk.set H.next (.text e c),H.next+1⟩:=by
 have l:(s++t).size=s.size+t.size:=by simp
 obtain⟨z,g,f⟩:=J0 hE g
 obtain⟨k,extra,B,k2⟩:=run_append_grow hE (sLen:=s.size) (sCap:=sCap) (base:=base) (old:=u8s s) (new:=u8s t) (n:=t.size) (β:=β) (w:=w) (x:=x) hs hxd hi g (by rw[hi1];exact f)
  (by rw[hb1];omega) (by omega) (Or.inl ⟨hni,hlen,by rw[hi1];exact hnew⟩) (by rw[hi1];exact hold) hcap ty
 have C:=Zr w;rw[hi1,Nat.mul_one]at B;obtain⟨A,u⟩:=(a.alike C).newText hE (e:=e) (extra:=extra) hwc hc hts (0,0) (by simp);have D:β d.next=none:=a.fresh (Nat.le_refl _);obtain⟨o1,o2⟩:=zbx hE (H:=d) (x:=(w.heap.size,0,(s++t).size+extra.length)) hwc hc D (le_add_right _ _);rw[hn]at A u o1 o2;refine⟨β.put H.next (w.heap.size,0,(s++t).size+extra.length),_,?_,o1,A,(m.trans (Ext.alike a.bnd C)).trans u⟩;rw[k2,o2,l,B,u8s_append]
theorem zm1{β:Inj}{H:Heap}{w:World}(hR:Rel E.P β H w){m l e:TypeId}{k:TypeDesc}{i:TypeInfo}{id sCap:Nat}{A:zo}{y:Nat×Nat×Nat}{arr:Array Value}{fz:Nat×Nat}{x c:zb}{s t:ByteArray}
  (hs:E.desc m=some (.slice e)) (hxd:E.desc l=some k) (hni:isInt k=false) (hi:E.types.get e=some i) (hi1:i.size=1) (hts:qX E.P e=1)
  (hlen:(Builtin.lenOf (zc β x)).run E.P w = .ok t.size w) (hnew:∀w',Alike w w'->(Builtin.firstCells 1 t.size (zc β x)).run E.P w' = .ok (zf β (u8s t)).toArray w')
  (h60:100<=id) (hb:H.blk.get id=some A) (hy:β id=some y) (harr:w.heap[y.1]?=some (.cells arr e fz)) (hthaw:∀i,i<arr.size->¬(fz.1<=i/\i<fz.2)) (hsize:y.2.1+sCap<=arr.size)
  (hcell:∀j (b:UInt8),s.data[j]?=some b->arr[y.2.1+j]?=some (.int .u8 b.toNat))
  (hwc:WF β c) (hc:zc β c = .string (s++t)) (hge:s.size+t.size<=sCap) (ty:TypeId) :
  Sim E.P β H w (Builtin.append_ #[m,l] ty #[.slice (some ⟨y.1,y.2.1,none⟩) s.size sCap,zc β x]) (.osl H.next c) ⟨(H.blk.del id).set H.next (.text e c),H.next+1⟩:=by
 have d:(s++t).size=s.size+t.size:=by simp
 have f:(zf β (u8s t)).length=t.size:=by rw[zx,length_map,u8s_length]
 obtain⟨w',a,s1,s2,s3,s4,s5⟩:=VC (P:=E.P) y.1 (y.2.1+s.size) e fz (zf β (u8s t)) 0 w arr harr hthaw
  (by rw[f];omega) (by
   intro u n;rw[zx]at n;obtain⟨v,hv,rfl⟩:=List.mem_map.1 n
   exact U6 (u8s_ok t v hv))
 have o:β H.next=none:=hR.fresh (Nat.le_refl _)
 have g:∀j (b:UInt8),(sOf (zc β c)).data[j]?=some b->a[y.2.1+j]?=some (.int .u8 b.toNat):=by
  intro j b hb;rw[hc]at hb;have hb:(s++t).data[j]?=some b:=hb;rw[s5,f];have hd:(s++t).data=s.data++t.data:=by simp
  rw[hd,Array.getElem?_append]at hb;have z:s.data.size=s.size:=rfl;split at hb
  .rename_i hj;rw[if_neg (by omega)];exact hcell j b hb
  .rename_i hj;have h2:=(Array.getElem?_eq_some_iff.1 hb).1;have h2:j-s.data.size<t.size:=h2;rw[if_pos (by omega),u8s_get,show y.2.1+j-(y.2.1+s.size+0)=j-s.data.size from by omega,hb];rfl
 obtain⟨r,p⟩:=hR.rename (b':=.text e c) (y:=(y.1,y.2.1,sCap)) h60 hb hy rfl s3 ⟨a,fz,s2,ZY.mono ⟨hwc,⟨s++t,hc,by rw[d];exact hge⟩,by rw[s4];exact hsize,g,by rw[s4];exact hthaw,hts⟩ (Inj.kX o)⟩
 .obtain⟨o1,o2⟩:=zbx hE (H:=H) (x:=(y.1,y.2.1,sCap)) hwc hc o (by rw[d];exact hge);refine⟨β.put H.next (y.1,y.2.1,sCap),w',?_,o1,r,p⟩;rw[o2,d]
  have e1:(⟨y.1,y.2.1,none⟩:Addr).add (s.size*i.size)=⟨y.1,y.2.1+s.size,none⟩:=by
   rw[hi1,Nat.mul_one];unfold Addr.add;by_cases h:s.size=0<;>simp[h]
  exact yW hE (w':=w') (base:=some ⟨y.1,y.2.1,none⟩) (new:=u8s t) hs hxd hi (Or.inl ⟨hni,hlen,by rw[hi1];exact hnew⟩) (by show(storeCells _ _).run _ _=_;rw[e1];exact s1) hge ty
theorem zlu{β : Inj}(hF : zC E β){H H' : Heap}{w : World}(hR : Rel E.P β H w){sT xT e : TypeId}{xd : TypeDesc}{s x v : zb}(hd : E.desc sT = some (.slice e))(C : E.desc xT = some xd)(G : isInt xd = false)
    (h : zxy E H e s x = some (v, H')) (hs : WF β s) (hx : WF β x) (ty : TypeId) :
    Sim E.P β H w (Builtin.append_ #[sT, xT] ty #[zc β s, zc β x]) v H' := by
  replace h := ze h;obtain⟨ed, _, h⟩ := h;replace h := ze h;obtain⟨k, _, h⟩ := h;replace h := ze h;obtain⟨i, hi, h⟩ := h;replace h := zg h;obtain⟨hu, h⟩ := h;simp only[zk, Bool.and_eq_true, zu, beq_iff_eq] at hu;obtain⟨_, z, hb1, hz⟩ := hu
  have D : qX E.P e = 1 := by
    have := (Qy hE (show E.size e = some i.size by unfold Env.size; rw[hi]; rfl)).choose_spec.2.2.2;rw[this, z]
  replace h := ze h;obtain⟨a, T, h⟩ := h;replace h := ze h;obtain⟨b, hb, h⟩ := h;obtain⟨wa, n, Z, la, fa⟩ := Y5 hE hF hR T hs;obtain⟨wb, B, eb, lb, fb⟩ := Y5 hE hF hR hb hx;replace h := ze h;obtain⟨Y, d, h⟩ := h
  have empty : ∀base sLen sCap, zc β s = .slice base sLen sCap -> sLen <= sCap -> Uc b = true -> Sim E.P β H w (Builtin.append_ #[sT, xT] ty #[zc β s, zc β x]) s H := by
    intro base sLen sCap g hle K;have := za4 K;subst this;have hsb : B = .empty := by cases eb; rfl
    subst hsb;have O : zbX E β w e i xd x 0 [] := Or.inl ⟨G, lb, fun w' hA => by rw[z]; exact fb w' hA⟩;refine qh.sim ⟨?_, hs⟩ hR;rw[g];exact yW hE (base := base) hd C hi O (by cases base <;> simp[zf, storeCells]) hle ty
  have rest : ∀ {r : zb × Heap}, (ifB (zhr E b) (bnd (zu4 E a b) fun c => ifB (zfN E c) (zwG Y e c) none) none) = some r -> Y.next = H.next ->
      ∃c, r = (.osl H.next c, ⟨Y.blk.set H.next (.text e c), H.next + 1⟩) /\ WF β c /\ zc β c = .string (n ++ B) /\ (n ++ B).size <= 1000000000 /\ 0 < B.size := by
    intro r h hn;obtain⟨h1, h⟩ := zg h;obtain⟨c, hc, h⟩ := ze h;obtain⟨h2, h⟩ := zg h;cases h;obtain⟨c1, o⟩ := zld hE hF hc wa wb Z eb;exact⟨c, by rw[<- hn], c1, o, zfM hE hF h2 o, zaG hE hF h1 eb⟩
  have grow : ∀ {base sCap c}, zc β s = .slice base n.size sCap -> Rel E.P β Y w -> Ext β H w β Y w -> Y.next = H.next -> sCap < n.size + B.size -> WF β c -> zc β c = .string (n ++ B) -> (n ++ B).size <= 1000000000 ->
      Sim E.P β H w (Builtin.append_ #[sT, xT] ty #[zc β s, zc β x]) (.osl H.next c) ⟨Y.blk.set H.next (.text e c), H.next + 1⟩ := by
    intro base sCap c g r1 r2 hn hcap c1 o c3;have fa' := fa;rw[g] at fa' ⊢;exact zoI hE r1 r2 hn hd C G hi z hb1 hz D lb fb fa' c1 o c3 hcap ty
  unfold zmN at d
  cases h1 : QQ s with
  | some p =>
    rw[h1, zd] at d;have := JO h1;subst this;obtain⟨w1, w2, u, hu1, hu2⟩ := hs;replace d := ze d;obtain⟨b1, A, d⟩ := d;replace d := ze d;obtain⟨q, hq, d⟩ := d;replace d := zg d;obtain⟨h60, d⟩ := d;rw[zk, Bool.and_eq_true, zG, decide_eq_true_eq, zu, beq_iff_eq] at h60;cases d;have := Vb hq;subst this
    have L : a = p.2 /\ q.2 = p.2 := by
      unfold Y6 at T;rw[h1, zd, A, qw, show zas (zo.text q.1 q.2) = some q from rfl, qw] at T;obtain⟨g1, g2⟩ := zg T;cases g2;exact⟨rfl, zM _ _ g1⟩
    obtain⟨rfl, L⟩ := L;have M : n = u := by rw[hu1] at Z; cases Z; rfl
    subst M;have g : zc β (.osl p.1 p.2) = .slice (some (β.addr p.1 0)) n.size (β.ext p.1) := by simp[zc, Z, sOf]
    rw[zl] at h;split at h
    · rename_i K
      cases h;exact empty _ _ _ g hu2 K
    · obtain⟨c, f, c1, o, c3, c4⟩ := rest h rfl
      cases f;obtain⟨y, hy⟩ := Option.isSome_iff_exists.1 w1;obtain⟨X, U⟩ := hR.del h60.1 hy;rcases Nat.lt_or_ge (β.ext p.1) (n.size + B.size) with m|Q
      · exact grow g X U rfl m c1 o c3
      · obtain⟨arr, fz, a1, a2⟩ := hR.zjE A w1
        have e1 : β.blk p.1 = y.1 := by simp[Inj.blk, hy]
        have e2 : β.sh p.1 = y.2.1 := by simp[Inj.sh, hy]
        have e3 : β.addr p.1 0 = ⟨y.1, y.2.1, none⟩ := by simp[Inj.addr, e1, e2]
        rw[g, e3];refine zm1 hE hR hd C G hi z D lb fb h60.1 A hy (arr := arr) (fz := fz) (by rw[<- e1, <- h60.2]; exact a1) a2.thaw (by rw[<- e2]; exact a2.size) (fun j b I => ?_) c1 o Q ty;rw[<- e2]
        exact a2.cell j b (by rw[L, Z]; exact I)
  | none =>
    rw[h1, zm] at d
    cases h2 : kN s with
    | none =>
      rw[h2, zm] at d;replace d := zg d;obtain⟨h3, d⟩ := d;cases d;have := jB h3;subst this
      have M : n = .empty := by
        have : a = .str [] := by
          have T : (some (zb.str []) : Option zb) = some a := T;cases T; rfl
        subst this;cases Z; rfl
      subst M;rw[zl] at h;split at h
      · rename_i K
        cases h;exact empty none 0 0 rfl (Nat.le_refl _) K
      · obtain⟨c, f, c1, o, c3, c4⟩ := rest h rfl
        cases f
        exact grow (base := none) (sCap := 0) rfl hR (.refl _ _ _ hR.bnd) rfl (by omega) c1 o c3
    | some q =>
      rw[h2, zd, zl] at d;have := jP h2;subst this
      have hlq : n.size = q.len := by
        have : (Builtin.lenOf (zc β (.slice q.b q.off q.len q.cap q.ex))).run E.P w = .ok q.len w := by simp[Builtin.lenOf, zc]
        rw[this] at la;exact(Result.ok.inj la).1.symm
      split at d
      · rename_i hex
        replace d := zg d;obtain⟨h3, d⟩ := d;rw[zu, beq_iff_eq] at h3;cases d;have g : zc β (.slice q.b q.off q.len q.cap q.ex) = .slice (some (β.addr q.b q.off)) n.size q.cap := by simp[zc, hex, hlq]
        rw[zl] at h;split at h
        · rename_i K
          cases h;exact empty _ _ _ g (by omega) K
        · obtain⟨c, f, c1, o, c3, c4⟩ := rest h rfl
          cases f;exact grow g hR (.refl _ _ _ hR.bnd) rfl (by omega) c1 o c3
      · rename_i hex
        replace d := ze d;obtain⟨r, hr, d⟩ := d;replace d := zg d;obtain⟨h3, d⟩ := d;rw[zk, Bool.and_eq_true, zk, Bool.and_eq_true, zk, Bool.and_eq_true, zG, decide_eq_true_eq, zu, beq_iff_eq, zu, beq_iff_eq, zu, beq_iff_eq] at h3;obtain⟨h60, N, hoff, hcapn⟩ := h3;cases d
        have g : zc β (.slice q.b q.off q.len q.cap q.ex) = .slice (some (β.addr q.b q.off)) n.size (q.cap + β.ext q.b) := by
          simp only[zc, hlq];rw[if_neg hex]
        have hle := hs.2;rw[zl] at h;split at h
        · rename_i K
          cases h;exact empty _ _ _ g (by omega) K
        · obtain⟨c, f, c1, o, c3, c4⟩ := rest h rfl
          cases f;obtain⟨y, hy⟩ := Option.isSome_iff_exists.1 hs.1;obtain⟨X, U⟩ := hR.del h60 hy;rcases Nat.lt_or_ge (q.cap + β.ext q.b) (n.size + B.size) with m|Q
          · exact grow g X U rfl m c1 o c3
          · obtain⟨arr, fz, a1, a2⟩ := hR.rowAt hr hs.1
            have e1 : β.blk q.b = y.1 := by simp[Inj.blk, hy]
            have e2 : β.sh q.b = y.2.1 := by simp[Inj.sh, hy]
            have e3 : β.addr q.b q.off = ⟨y.1, y.2.1, none⟩ := by rw[hoff]; simp[Inj.addr, e1, e2]
            have hsz := a2.size;rw[N, D] at hsz;have hA := fa w (alike_refl w);rw[g, e3] at hA;rw[g, e3];obtain⟨b0, hb0, _⟩ := QR hr;refine zm1 hE hR hd C G hi z D lb fb h60 hb0 hy (arr := arr) (fz := fz) (by rw[<- e1, <- N]; exact a1) a2.thaw (by rw[<- e2]; omega) (fun j b I => ?_) c1 o Q ty;have J : (loadCells ⟨y.1, y.2.1, none⟩ n.size).run E.P w = .ok (zf β (u8s n)).toArray w := by simpa[Builtin.firstCells] using hA
            have hj := (Array.getElem?_eq_some_iff.1 I).1;have hj : j < n.size := hj;have e1' : w.heap[y.1]?=some (.cells arr e fz) := by rw[<- e1, <- N]; exact a1
            have hl := run_loadCells (P := E.P) w ⟨y.1, y.2.1, none⟩ n.size (fun k => arr.getD (y.2.1 + k) undef) (fun k hk => by
              have : (⟨y.1, y.2.1, none⟩ : Addr).add k = ⟨y.1, y.2.1 + k, none⟩ := by
                unfold Addr.add;by_cases h : k = 0 <;> simp[h]
              rw[this, cell_of e1'];have m : y.2.1 + k < arr.size := by rw[<- e2]; omega
              rw[Array.getElem?_eq_getElem m, getD_eq_getD_getElem?, Array.getElem?_eq_getElem m]
              rfl)
            rw[J] at hl;have hl := congrArg Array.toList (Result.ok.inj hl).1;simp only at hl;have hl := congrArg (fun l : List Value => l[j]?) hl;simp only[u8s_get, I, map_some, List.getElem?_map, List.getElem?_range hj] at hl;have m : y.2.1 + j < arr.size := by rw[<- e2]; omega
            rw[Array.getElem?_eq_getElem m];rw[getD_eq_getD_getElem?, Array.getElem?_eq_getElem m] at hl;exact hl.symm
def zec(s:ByteArray):List zb:=mapA (fun b=>.int .i64 (.ofNat b)) (zA s)
omit hE in
theorem ze0(β:Inj)(s:ByteArray):zf β (zec s)=s.data.toList.map fun b=>Value.int .i64 b.toNat:=by
 rw[zx];unfold zec zA;rw[jn,jn,List.map_map,List.map_map];rfl
omit hE in
theorem za5(s:ByteArray):(zec s).length=s.size:=by
 have:=congrArg List.length (ze0 (fun _=>none) s);rw[zx,length_map,length_map]at this;exact this
omit hE in
theorem ziB(β:Inj)(s:ByteArray)(j:Nat):(zf β (zec s))[j]?=(s.data[j]?).map fun b=>Value.int .i64 b.toNat:=by
 rw[ze0,List.getElem?_map,getElem?_toList]
omit hE in
theorem zfq{b:zo}{q:TypeId×zb}(h:zgC b=some q):b = .ints q.1 q.2:=by cases b<;>cases h;rfl
omit hE in
theorem zn5{P:Program}{β:Inj}{H:Heap}{w:World}(hR:Rel P β H w){b:Nat}{t:TypeId}{v:zb}(h:H.blk.get b=some (.ints t v))(hb:(β b).isSome){s:ByteArray}(hs:zc β v = .string s) :
  (loadCells (β.addr b 0) s.size).run P w = .ok (zf β (zec s)).toArray w:=by
 obtain⟨y,hy⟩:=Option.isSome_iff_exists.1 hb;obtain⟨arr,fz,h1,h2⟩:=hR.blk _ _ _ h hy;have e1:β.blk b=y.1:=by simp[Inj.blk,hy]
 have e2:β.sh b=y.2.1:=by simp[Inj.sh,hy]
 have:=run_loadCells_list (P:=P) (w:=w) (β.addr b 0) (zf β (zec s)) (by
  intro j x hj;rw[ziB]at hj
  cases hd:s.data[j]? with
  | none=>rw[hd]at hj;cases hj
  | some c=>
   rw[hd]at hj;cases hj;have h3:=h2.cell j c (by rw[hs];exact hd);rw[Inj.jF,Inj.addr,e1,e2,cell_of h1,Nat.zero_add]
   exact h3)
 rw[zx,length_map,za5,<- zx]at this;exact this
theorem zfO{β:Inj}(hF:zC E β){v:zb}{s:ByteArray}(h:zj4 E v=true)(hv:zc β v = .string s):s.size<=100000000:=by
 have _:=hE;unfold zj4 at h
 cases h1:jm v with
 | some l=>
  rw[h1,zd,zG,decide_eq_true_eq,jE]at h;obtain rfl:=qG h1;cases hv
  rw[qm];exact h
 | none=>
  rw[h1,zm]at h
  cases h2:findF (zd8 v) E.facts with
  | none=>rw[h2]at h;cases h
  | some l=>
   rw[h2,zd]at h;obtain⟨f,d,e⟩:=qu h2;obtain rfl:=WM e;obtain⟨_,_,k,e1,e2⟩:=hF _ d;rw[hv]at e1;cases e1
   cases i:findF (zcS .gtr l (.int .i64 (.ofNat 100000000))) E.facts with
   | none=>rw[i]at h;cases h
   | some r=>
    rw[i,zd]at h;obtain⟨f,d,e⟩:=qu i;obtain⟨_,_,_,_,a⟩:=WN e (hF _ d);have a:=a 0 default;rw[e2]at a
    cases g:asBool r with
    | none=>rw[g]at h;cases h
    | some b=>
     rw[g,zd,qI]at h;obtain rfl:=Qv g;have a:(Go.binOp .gtr 0 (.int .i64 (s.size:Nat)) (.int .i64 100000000)).run E.P default = .ok (.bool b) default:=a;simp[Go.binOp,Op.intCmp]at a;have hb:b=false:=by simpa using h
     rw[hb]at a;have a:=of_decide_eq_false a;omega
theorem Rel.ztq{P:Program}{β:Inj}{H:Heap}{w:World}(hR:Rel P β H w){e:TypeId}{c:zb}{s:ByteArray}{extra:List Value}(d:WF β c)(hc:zc β c = .string s)(f:qX P e=1)(fz:Nat×Nat)
  (hf:∀i,i<s.size+extra.length->¬(fz.1<=i/\i<fz.2)) :
  Rel P (β.put H.next (w.heap.size,0,s.size+extra.length)) ⟨H.blk.set H.next (.ints e c),H.next+1⟩ (push w (.cells (zf β (zec s)++extra).toArray e fz)) /\
  Ext β H w (β.put H.next (w.heap.size,0,s.size+extra.length)) ⟨H.blk.set H.next (.ints e c),H.next+1⟩ (push w (.cells (zf β (zec s)++extra).toArray e fz)):=by
 have _:=hE;have hl:(zf β (zec s)).length=s.size:=by rw[zx,length_map,za5]
 refine hR.add _ _ _ ⟨_,fz,yo _ _,ZY.mono ⟨d,⟨s,hc,le_add_right _ _⟩,?_,?_,?_,f⟩ (Inj.kX (hR.fresh (Nat.le_refl _)))⟩
 .simp[hl]
 .intro i b hb;rw[hc]at hb;have a:=(Array.getElem?_eq_some_iff.1 hb).1;have a:i<s.size:=a;rw[Nat.zero_add,getElem?_toArray,List.getElem?_append_left (by rw[hl];exact a),ziB];have hb:s.data[i]?=some b:=hb;rw[hb];rfl
 .intro i hi;exact hf i (by simpa[hl] using hi)
theorem zlv{β:Inj}(hF:zC E β){H H':Heap}{w:World}(hR:Rel E.P β H w){J I e:TypeId}{G:TypeDesc}{s x v:zb}(hd:E.desc J=some (.slice e))(u:E.desc I=some G)(B:isInt G=false)
  (h:zA4 E H e s x=some (v,H')) (hs:WF β s) (hx:WF β x) (ty:TypeId) :
  Sim E.P β H w (Builtin.append_ #[J,I] ty #[zc β s,zc β x]) v H':=by
 replace h:=ze h;obtain⟨Y,_,h⟩:=h;replace h:=ze h;obtain⟨k,_,h⟩:=h;replace h:=ze h;obtain⟨i,hi,h⟩:=h;replace h:=zg h;obtain⟨L,h⟩:=h;simp only[zk,Bool.and_eq_true,zu,beq_iff_eq,zG,decide_eq_true_eq]at L;obtain⟨_,a,D,o⟩:=L
 have A:qX E.P e=1:=by
  have:=(Qy hE (show E.size e=some i.size by unfold Env.size;rw[hi];rfl)).choose_spec.2.2.2;rw[this,a]
 replace h:=ze h;obtain⟨q,hq,h⟩:=h;obtain rfl:=jP hq;replace h:=zg h;obtain⟨hc,h⟩:=h;rw[zk,Bool.and_eq_true,zu,beq_iff_eq]at hc;obtain⟨hex,g⟩:=hc;replace h:=ze h;obtain⟨p,hp,h⟩:=h;obtain rfl:=JO hp;replace h:=ze h;obtain⟨b,hb,h⟩:=h;replace h:=ze h;obtain⟨r,T,h⟩:=h;obtain rfl:=zfq T;replace h:=zg h;obtain⟨hv,h⟩:=h;simp only[zk,Bool.and_eq_true]at hv;obtain⟨hv,d,f⟩:=hv;have hv:=zM _ _ hv;obtain⟨N,w2,t,hc,X⟩:=hx;have M:=zaG hE hF d hc;have hle:=zfO hE hF f hc;unfold zyo at h;simp only[zY]at h;cases h;obtain⟨z,o,m⟩:=J0 hE o;have hlen:q.len=0:=by have:=hs.2;omega
 have C:zc β (.slice q.b q.off q.len q.cap q.ex) = .slice (some (β.addr q.b q.off)) 0 0:=by simp[zc,hex,g,hlen]
 obtain⟨k,extra,K,k2⟩:=run_append_grow hE (sLen:=0) (sCap:=0) (base:=some (β.addr q.b q.off)) (old:=[]) (new:=zec t) (n:=t.size) (β:=β) (w:=w) (x:=.osl p.1 p.2) hd u hi o (by rw[a];exact m)
  (by have:=Nat.mul_le_mul hle D;rw[Nat.zero_add];omega) (by omega)
  (Or.inl ⟨B,by simp[Builtin.lenOf,zc,hc,sOf],fun w' l=>by
   rw[a];have:=zn5 (hR.alike l) hb N (by rw[hv];exact hc)
   simp[Builtin.firstCells,zc,this]⟩)
  (fun w' _=>by simp[Builtin.firstCells,zf,loadCells,loadCellsFrom]) (by omega) ty
 have l:=Zr w;rw[a,Nat.mul_one]at K;obtain⟨Q,O⟩:=(hR.alike l).ztq hE (e:=e) (extra:=extra) w2 hc A (0,0) (by simp);have U:β H.next=none:=hR.fresh (Nat.le_refl _);obtain⟨o1,o2⟩:=zbx hE (H:=H) (x:=(w.heap.size,0,t.size+extra.length)) w2 hc U (le_add_right _ _);refine⟨β.put H.next (w.heap.size,0,t.size+extra.length),_,?_,o1,Q,(Ext.alike hR.bnd l).trans O⟩;rw[C,k2,o2,K];simp only[Nat.zero_add,nil_append]
theorem zeh{β:Inj}(hF:zC E β){H H':Heap}{w:World}(hR:Rel E.P β H w){i g:TypeId}{s x v:zb}(h:zgO E H i g s x=some (v,H'))(hs:WF β s)(hx:WF β x)(ty:TypeId) :
  Sim E.P β H w (Builtin.append_ #[i,g] ty #[zc β s,zc β x]) v H':=by
 unfold zgO at h;rw[zl]at h;split at h
 .cases hp:zfZ E H i g s x with
  | some r=>
   rw[hp,zd]at h;cases h
   exact zd5 hE hR hp hs hx ty
  | none=>
   rw[hp,zm]at h;exact zdV hE hR h hs hx ty
 .replace h:=ze h;obtain⟨d,hd,h⟩:=h;replace h:=ze h;obtain⟨e,he,h⟩:=h;replace h:=ze h;obtain⟨l,a,h⟩:=h;replace h:=yI h;obtain⟨f,h⟩:=h;obtain rfl:=jJ he
  cases k:zxy E H e s x with
  | some r=>
   rw[k,zd]at h;cases h
   exact zlu hE hF hR hd a f k hs hx ty
  | none=>
   rw[k,zm]at h;exact zlv hE hF hR hd a f h hs hx ty
end
end
section
variable[Unk]
theorem Sim.zqi{P : Program}{a : Inj}{H H' : Heap}{w w' : World}{m : Sem Value}{v : zb}(h : m.run P w = .ok (zc a v) w')(hv : WF a v)(hR : Rel P a H' w')(hE : Ext a H w a H' w') :
    Sim P a H w m v H' := ⟨a, w', h, hv, hR, hE⟩
section
variable{E:Env}(hE:yg E)
include hE
theorem zjm{f:Inj}{H H':Heap}{w:World}(hR:Rel E.P f H w){y:TypeId}{d x v:zb}(h:zv3 E H y d x=some (v,H'))(hd:WF f d)(hx:WF f x)(o:Array TypeId)(r:o[0]?=some y)(ty:TypeId) :
  Sim E.P f H w (Builtin.copy_ o ty #[zc f d,zc f x]) v H':=by
 replace h:=ze h;obtain⟨t,i,h⟩:=h;replace h:=ze h;obtain⟨e,he,h⟩:=h;obtain rfl:=jJ he;replace h:=ze h;obtain⟨n,j,h⟩:=h;replace h:=ze h;obtain⟨p,hp,h⟩:=h;replace h:=zg h;obtain⟨c,h⟩:=h;rw[zu,jE,beq_iff_eq]at c;have c:p.2.length=p.1*n:=c;obtain⟨g1,A,z,u⟩:=UN hE hR hp hx
 have g:∀a b,znS a b=Nat.min a b:=by
  intro a b;unfold znS;rw[zl,zG];by_cases h:a<=b
  .rw[if_pos (by simp[h])];exact(Nat.min_eq_left h).symm
  .rw[if_neg (by simp[h])];exact(Nat.min_eq_right (by omega)).symm
 cases h1:kN d with
 | none=>
  rw[h1,zm]at h;replace h:=zg h;obtain⟨h2,h⟩:=h;obtain rfl:=jB h2;cases h;refine qh.sim ⟨?_,trivial⟩ hR;unfold Builtin.copy_;have m:=u (Nat.min p.1 0) (Nat.min_le_left _ _) c;simp only[r,getElem?_toArray,getElem?_cons_zero,getElem?_cons_succ,Sem.run_bind,zr hE i,Result.andThen_ok,zc,g1,qx hE j,m]
  simp[goInt,zc]
 | some q=>
  obtain rfl:=jP h1;rw[h1,zd]at h;replace h:=ze h;obtain⟨H1,l,h⟩:=h;cases h;rw[Ko]at l
  have hw:WFs f (p.2.take (znS p.1 q.len*n)):=by
   rw[zV]at *;intro v hv;exact z v (mem_of_mem_take hv)
  obtain⟨w',s1,s2,s3⟩:=hR.Jv l hd.1 hw;have s1:(storeCells (f.addr q.b q.off) (zf f (p.2.take (znS p.1 q.len*n)))).run E.P w = .ok () w':=s1;refine Sim.zqi ?_ (by simp[WF]) s2 s3;unfold Builtin.copy_;have m:=u (Nat.min p.1 q.len) (Nat.min_le_left _ _) c;rw[<- g]at m;simp only[r,getElem?_toArray,getElem?_cons_zero,getElem?_cons_succ,Sem.run_bind,zr hE i,Result.andThen_ok,zc,g1,qx hE j,<- g,m,s1];simp[goInt,zc]
theorem zgN{a:Inj}{H H':Heap}{w:World}(hR:Rel E.P a H w){t:TypeId}{x v:zb}(h:zsp E H t x=some (v,H'))(hx:WF a x)(f:Array TypeId)(b:f[0]?=some t)(ty:TypeId) :
  Sim E.P a H w (Builtin.clear_ f ty #[zc a x]) v H':=by
 replace h:=ze h;obtain⟨d,hd,h⟩:=h;replace h:=ze h;obtain⟨e,he,h⟩:=h;obtain rfl:=jJ he
 cases h1:kN x with
 | none=>
  rw[h1,zm]at h;replace h:=zg h;obtain⟨h2,h⟩:=h;obtain rfl:=jB h2;cases h;refine qh.sim ⟨?_,by simp⟩ hR;unfold Builtin.clear_
  simp[b,zr hE hd,zc,undef]
 | some q=>
  obtain rfl:=jP h1;rw[h1,zd]at h
  cases hl:q.len with
  | zero=>
   rw[hl,U8]at h;cases h;refine qh.sim ⟨?_,by simp⟩ hR;unfold Builtin.clear_
   simp[b,zr hE hd,zc,undef]
  | succ n=>
   rw[hl,WL]at h;replace h:=ze h;obtain⟨z,j,h⟩:=h;replace h:=ze h;obtain⟨H1,c,h⟩:=h;cases h;obtain⟨i,g⟩:=kJ hE j a w;obtain⟨w',s1,s2,s3⟩:=hR.Jv c hx.1 (US (jN g) _);refine Sim.zqi ?_ (by simp) s2 s3
   have l:Builtin.zeroCells (zc a z).cells (n+1)=(zf a (Q9 (zO z) (n+1))).toArray:=by
    unfold Builtin.zeroCells;have:=Jj (β:=a) (zO z) (zO z).length (n+1) rfl (zc a z).cells (fun _=>jd a z);rw[show(zc a z).cells.size=(zO z).length by rw[jd,zx];simp];rw[show(zc a z).cells.size=(zO z).length by rw[jd,zx];simp]at this;exact this
   unfold Builtin.clear_;simp only[b,getElem?_toArray,getElem?_cons_zero,Sem.run_bind,zr hE hd,Result.andThen_ok,zc,i,l,s1];simp[zc,jf,zf]
theorem zee{a:Inj}{w:World}{src dst:TypeId}{b:TypeDesc}{k:IntKind}{x:zb}{i:Int}(hs:E.desc src=some b)(hd:E.desc dst=some (.int k))(hx:Wv x=some i) :
  qh E.P a w (Go.convert src dst (zc a x)) (mkInt k (Zi k i)):=by
 obtain⟨j,rfl⟩:=JP hx;refine⟨?_,by simp[WF]⟩;unfold Go.convert;simp[zr hE hs,zr hE hd,zc,Conv.intToInt,j5]
omit hE in
theorem zba(w:World)(arr:Array Value)(t:TypeId) :
  (push w (.cells arr t)).freeze ⟨w.heap.size,arr.size,none⟩ 1=push w (.cells arr t (arr.size,arr.size+1)):=by
 unfold World.freeze push;simp only[Nat.one_ne_zero,if_false];congr 1
 apply Array.ext_getElem?;intro k;rw[Array.getElem?_modify];by_cases hk:w.heap.size=k
 .subst hk;simp
 .rw[if_neg hk,getElem?_push,getElem?_push,if_neg (fun e=>hk e.symm),if_neg (fun e=>hk e.symm)]
theorem zbp{a : Inj}{H : Heap}{w : World}(hR : Rel E.P a H w){src dst e : TypeId}{s : List Nat}{v : zb}{H' : Heap}(hs : E.desc src = some .string)(hd : E.desc dst = some (.slice e))
    (h : zlf E H e s = some (v, H')) (hx : ∀b ∈ s, b < 256) : Sim E.P a H w (Go.convert src dst (.string (str s))) v H' := by
  replace h := ze h;obtain⟨d, he, h⟩ := h;replace h := ze h;obtain⟨k, hk, h⟩ := h;have := Xw hk;subst this;replace h := zg h;obtain⟨g, h⟩ := h;rw[zk, Bool.and_eq_true] at g;obtain⟨g, h1⟩ := g;have := WV g;subst this
  have j : qX E.P e = 1 := by
    unfold zhA at h1
    cases f : E.size e with
    | none => rw[f] at h1; cases h1
    | some n =>
      rw[f, zd, zu, beq_iff_eq] at h1;subst h1;exact(Qy hE f).choose_spec.2.2.2
  simp only[zY] at h;have h := jX h;cases h;have hq := zk0 s.length 0 e (w.tape w.drawn (.appendCap s.length 0 e));generalize hcut : (Question.appendCap s.length 0 e).cut (w.tape w.drawn (.appendCap s.length 0 e)) = cap at hq;have r := Zr w;have p := hR.alike r
  have o : ((str s).data.map fun b => Value.int .u8 b.toNat) ++ Array.replicate (cap - s.length) (Value.int .u8 0) = (zf a (mapA u8 s) ++ List.replicate (cap - s.length) (Value.int .u8 0)).toArray := by
    rw[UM s hx a];apply Array.toList_inj.1;simp
  obtain⟨x, u⟩ := p.newRow (t := e) (e := cap - s.length) (fz := (s.length + (cap - s.length), s.length + (cap - s.length) + 1))
    (j9.ofList (zss a s) (List.replicate (cap - s.length) (Value.int .u8 0)) (cap - s.length) (by rw[j]; simp) _ (by intro i hi; simp at hi ⊢; omega))
  refine⟨a.put H.next (w.heap.size, 0, cap - s.length), _, ?_, ⟨by simp[Inj.zL], Nat.le_refl _⟩, x, (Ext.alike hR.bnd r).trans u⟩;have l : (zf a (mapA u8 s) ++ List.replicate (cap - s.length) (Value.int .u8 0)).toArray.size = s.length + (cap - s.length) := by simp[zx]
  unfold Go.convert;simp only[Sem.run_bind, zr hE hs, zr hE hd, Result.andThen_ok, zr hE he];unfold Conv.stringToBytes markStringish;simp only[Sem.run_bind, run_choose, Question.forced, Bool.false_eq_true, if_false, qm, hcut, Result.andThen_ok, o, newRow, run_newObj, Sem.run_pure, run_shape]
  have m : (push { w with drawn := w.drawn + 1 } (.cells (zf a (mapA u8 s) ++ List.replicate (cap - s.length) (Value.int .u8 0)).toArray e)).shape? w.heap.size =
      some (e, s.length + (cap - s.length)) := by
    unfold World.shape?;rw[yo { w with drawn := w.drawn + 1 }];simp[zx]
  have c := zba { w with drawn := w.drawn + 1 } (zf a (mapA u8 s) ++ List.replicate (cap - s.length) (Value.int .u8 0)).toArray e;rw[l] at c;have c : (push { w with drawn := w.drawn + 1 } (.cells (zf a (mapA u8 s) ++ List.replicate (cap - s.length) (Value.int .u8 0)).toArray e)).freeze ⟨w.heap.size, s.length + (cap - s.length), none⟩ 1 = _ := c
  have fin : ∀W : World, W = push { w with drawn := w.drawn + 1 } (.cells (zf a (mapA u8 s) ++ List.replicate (cap - s.length) (Value.int .u8 0)).toArray e) ->
      ((match W.shape? w.heap.size with
        | some (_, n) => freeze { block := w.heap.size, off := n } 1
        | _ => (pure () : Sem Unit)).run E.P W).andThen (fun _ w' => Result.ok (Value.slice (some { block := w.heap.size, off := 0 }) s.length cap) w') =
      Result.ok (zc (a.put H.next (w.heap.size, 0, cap - s.length)) (zb.slice H.next 0 (qS s 0) (qS s 0) false))
        (push { w with drawn := w.drawn + 1 } (.cells (zf a (mapA u8 s) ++ List.replicate (cap - s.length) (Value.int .u8 0)).toArray e (s.length + (cap - s.length), s.length + (cap - s.length) + 1))) := by
    intro W y;rw[y, m];simp only[run_freeze, Result.andThen_ok];rw[c];simp only[zc, jE, Um, Bool.false_eq_true, if_false, yA];rw[show s.length + (cap - s.length) = cap by omega]
  exact fin _ rfl
theorem zdv{a : Inj}{H : Heap}{w : World}(hR : Rel E.P a H w){src dst e : TypeId}{d : TypeDesc}{k : IntKind}{x : zb}{s : ByteArray}(hs : E.desc src = some .string)(hd : E.desc dst = some (.slice e))(he : E.desc e = some d)(hk : Wo d = some k)
    (j : zn (zgf k) (zhA E e) = true) (hx : WF a x) (hc : zc a x = .string s) : Sim E.P a H w (Go.convert src dst (.string s)) (.osl H.next x) ⟨H.blk.set H.next (.text e x), H.next + 1⟩ := by
  have := Xw hk;subst this;rw[zk, Bool.and_eq_true] at j;obtain⟨j, h1⟩ := j;have := WV j;subst this
  have l : qX E.P e = 1 := by
    unfold zhA at h1
    cases f : E.size e with
    | none => rw[f] at h1; cases h1
    | some n =>
      rw[f, zd, zu, beq_iff_eq] at h1;subst h1;exact(Qy hE f).choose_spec.2.2.2
  have hq := zk0 s.size 0 e (w.tape w.drawn (.appendCap s.size 0 e));generalize hcut : (Question.appendCap s.size 0 e).cut (w.tape w.drawn (.appendCap s.size 0 e)) = cap at hq;have u := Zr w;have r := hR.alike u
  have p : (s.data.map fun b => Value.int .u8 b.toNat) ++ Array.replicate (cap - s.size) (Value.int .u8 0) = (zf a (u8s s) ++ List.replicate (cap - s.size) (Value.int .u8 0)).toArray := by
    apply Array.toList_inj.1;simp[u8s_conc]
  have h : (List.replicate (cap - s.size) (Value.int .u8 0)).length = cap - s.size := length_replicate;obtain⟨y, v⟩ := r.newText hE (e := e) (extra := List.replicate (cap - s.size) (Value.int .u8 0)) hx hc l (s.size + (cap - s.size), s.size + (cap - s.size) + 1) (by intro i hi; rw[h] at hi; simp; omega);have z : a H.next = none := hR.fresh (Nat.le_refl _);obtain⟨o1, o2⟩ := zbx hE (H := H) (x := (w.heap.size, 0, s.size + (List.replicate (cap - s.size) (Value.int .u8 0)).length)) hx hc z (le_add_right _ _);refine⟨_, _, ?_, o1, y, (Ext.alike hR.bnd u).trans v⟩;have g : (zf a (u8s s)).length = s.size := by rw[zx, length_map, u8s_length]
  have m : (zf a (u8s s) ++ List.replicate (cap - s.size) (Value.int .u8 0)).toArray.size = s.size + (cap - s.size) := by simp[g]
  unfold Go.convert;simp only[Sem.run_bind, zr hE hs, zr hE hd, Result.andThen_ok, zr hE he];unfold Conv.stringToBytes markStringish;simp only[Sem.run_bind, run_choose, Question.forced, Bool.false_eq_true, if_false, hcut, Result.andThen_ok, p, newRow, run_newObj, Sem.run_pure, run_shape]
  have o : (push { w with drawn := w.drawn + 1 } (.cells (zf a (u8s s) ++ List.replicate (cap - s.size) (Value.int .u8 0)).toArray e)).shape? w.heap.size =
      some (e, s.size + (cap - s.size)) := by
    unfold World.shape?;rw[yo { w with drawn := w.drawn + 1 }];simp[g]
  have c := zba { w with drawn := w.drawn + 1 } (zf a (u8s s) ++ List.replicate (cap - s.size) (Value.int .u8 0)).toArray e;rw[m] at c;have c : (push { w with drawn := w.drawn + 1 } (.cells (zf a (u8s s) ++ List.replicate (cap - s.size) (Value.int .u8 0)).toArray e)).freeze ⟨w.heap.size, s.size + (cap - s.size), none⟩ 1 = _ := c
  have fin : ∀W : World, W = push { w with drawn := w.drawn + 1 } (.cells (zf a (u8s s) ++ List.replicate (cap - s.size) (Value.int .u8 0)).toArray e) ->
      ((match W.shape? w.heap.size with
        | some (_, n) => freeze { block := w.heap.size, off := n } 1
        | _ => (pure () : Sem Unit)).run E.P W).andThen (fun _ w' => Result.ok (Value.slice (some { block := w.heap.size, off := 0 }) s.size cap) w') =
      Result.ok (zc (a.put H.next (w.heap.size, 0, s.size + (List.replicate (cap - s.size) (Value.int .u8 0)).length)) (zb.osl H.next x))
        (push { w with drawn := w.drawn + 1 } (.cells (zf a (u8s s) ++ List.replicate (cap - s.size) (Value.int .u8 0)).toArray e (s.size + (cap - s.size), s.size + (cap - s.size) + 1))) := by
    intro W A;rw[A, o];simp only[run_freeze, Result.andThen_ok];rw[c, o2, h];rw[show s.size + (cap - s.size) = cap by omega]
  exact fin _ rfl
end
end
section
variable[Unk]
theorem Rel.drop{P:Program}{f:Inj}{H:Heap}{w w':World}(hR:Rel P f H w){id:Nat}{b:zo}{x:Nat×Nat×Nat}
  (h60:100<=id) (hb:H.blk.get id=some b) (hx:f id=some x) (ht:JS x.1 w w') :
  Rel P f ⟨H.blk.del id,H.next⟩ w'/\Ext f H w f ⟨H.blk.del id,H.next⟩ w':=by
 have aux:∀i c,(H.blk.del id).get i=some c->i≠id/\H.blk.get i=some c:=by
  intro i c h;rw[Tr.jc]at h;by_cases hi:id=i
  .rw[if_pos hi]at h;cases h
  .rw[if_neg hi]at h;exact⟨fun e=>hi e.symm,h⟩
 refine⟨⟨hR.base,?_,fun i j c d y z h1 h2 h3 k e=>hR.inj _ _ _ _ _ _ (aux _ _ h1).2 h2 (aux _ _ h3).2 k e,hR.bnd,fun i c h=>hR.live _ _ (aux _ _ h).2⟩,
  ⟨fun _ _=>rfl,Nat.le_refl _,?_,fun i c _ h=>⟨c,(aux _ _ h).2⟩,fun i hi=>(by show(H.blk.del id).get i=_;rw[Tr.jc,if_neg (by omega)]),fun i y hi e=>absurd (hR.bnd _ _ e) (by omega),?_,by rw[ht.size];exact Nat.le_refl _,ht.tape,ht.os,ht.output⟩⟩
 .intro i c y h1 h2;obtain⟨g1,g⟩:=aux _ _ h1;refine(hR.blk i c y g h2).heap (ht.other _ fun e=>g1 ?_);exact hR.Ze (.inr h60) g h2 hb hx e
 .intro i _ e;show(H.blk.del id).get i=_;rw[Tr.jc,if_neg];intro hi;subst hi;rw[hx]at e;cases e
 .intro c _ hc;exact ht.other c fun e=>hc ⟨id,b,x,h60,hb,hx,e.symm⟩
theorem zfx(w:World)(a:Addr)(n:Nat):JS a.block w (w.freeze a n):=by
 unfold World.freeze;split
 .exact .refl _ _
 .refine⟨fun k b=>?_,by simp,rfl,rfl,rfl⟩;simp only[Array.getElem?_modify];rw[if_neg (fun e=>b e.symm)]
theorem Kb{v:zb}{b:Nat}(h:W9 v=some b):∃n:Nat,v = .int .u8 (.ofNat n)/\b=n % 256:=by
 replace h:=ze h;obtain⟨p,hp,h⟩:=h;obtain rfl:=jr hp;replace h:=zg h;obtain⟨h1,h⟩:=h;have:=WV h1;replace h:=jj h;obtain⟨n,hn,h⟩:=h;cases h;exact⟨n,by rw[this,hn],rfl⟩
theorem Wu:∀ {cs:List zb}{l:List Nat},Ut cs=some l->∃ns:List Nat,cs=ns.map (fun n=>.int .u8 (.ofNat n))/\l=ns.map (· % 256)
 | [],l,h=>by
  have h:some ([]:List Nat)=some l:=h
  cases h;exact⟨[],rfl,rfl⟩
 | v::cs,l,h=>by
  have h:(bnd (W9 v) fun b=>bnd (Ut cs) fun m=>some (b::m))=some l:=(Ys W9 v cs).symm.trans h;replace h:=ze h;obtain⟨b,hb,h⟩:=h;replace h:=ze h;obtain⟨m,hm,h⟩:=h;cases h;obtain⟨n,rfl,rfl⟩:=Kb hb;obtain⟨ns,rfl,rfl⟩:=Wu hm;exact⟨n::ns,rfl,rfl⟩
theorem ofNat_mod(n:Nat):UInt8.ofNat (n % 256)=UInt8.ofNat n:=by
 apply UInt8.toNat_inj.1;simp
theorem zlU(ns:List Nat):str (ns.map (· % 256))=⟨(ns.map UInt8.ofNat).toArray⟩:=by
 unfold str;congr 2
 rw[List.map_map];exact List.map_congr_left fun n _=>ofNat_mod n
theorem zsu(c:Inj)(ns:List Nat):WF c (.str (ns.map (· % 256))):=by
 intro b hb;obtain⟨n,_,rfl⟩:=List.mem_map.1 hb;exact mod_lt _ (by omega)
theorem ziU(b:Inj)(ns:List Nat):zf b (ns.map fun n=>zb.int .u8 (.ofNat n))=(ns.map Int.ofNat).map (Value.int .u8):=by
 rw[zx,List.map_map,List.map_map];rfl
theorem fold_push(ns:List Nat):∀s:ByteArray,(ns.map Int.ofNat).foldl (fun r n=>r.push (UInt8.ofNat n.toNat)) s=⟨s.data++(ns.map UInt8.ofNat).toArray⟩:=by
 induction ns with
 | nil=>intro s;simp
 | cons n ns ih=>
  intro s;rw[map_cons,foldl_cons,ih];apply ByteArray.ext;simp[ByteArray.push]
section
variable{E:Env}(hE:yg E)
include hE
theorem zef{c:Inj}(hF:zC E c){H H':Heap}{w:World}(hR:Rel E.P c H w){src dst e:TypeId}{x v:zb}(hs:E.desc src=some (.slice e))(hd:E.desc dst=some .string)
  (h:zmV E H e x=some (v,H')) (hx:WF c x):Sim E.P c H w (Go.convert src dst (zc c x)) v H':=by
 replace h:=ze h;obtain⟨d,he,h⟩:=h;replace h:=ze h;obtain⟨k,G,h⟩:=h;obtain rfl:=Xw G;replace h:=zg h;obtain⟨D,h⟩:=h;obtain rfl:=WV D
 cases h1:kN x with
 | none=>
  rw[h1,zm,zl]at h;split at h
  case isFalse=>
   replace h:=ze h;obtain⟨p,hp,h⟩:=h;replace h:=ze h;obtain⟨u,t,h⟩:=h;cases h;obtain⟨C,s,f,B,z⟩:=Y5 hE hF hR t hx;obtain rfl:=JO hp;have m:=z w (alike_refl w);have m:(loadCells (c.addr p.1 0) s.size).run E.P w = .ok (zf c (u8s s)).toArray w:=by simpa[Builtin.firstCells,zc] using m
   have J:(sOf (zc c p.2)).size=s.size:=by
    have:(Builtin.lenOf (zc c (.osl p.1 p.2))).run E.P w = .ok (sOf (zc c p.2)).size w:=by simp[Builtin.lenOf,zc]
    rw[this]at B;exact(Result.ok.inj B).1
   refine qh.sim ⟨?_,C⟩ hR;rw[u8s_conc]at m;have i:=run_convert_bytes_string (P:=E.P) w src dst e (some (c.addr p.1 0)) s.size (c.ext p.1) (yf hE hs) (yf hE he) (yf hE hd);have I:=run_bytesToString (P:=E.P) w (c.addr p.1 0) s.size (c.ext p.1) (s.data.toList.map fun b=>((b.toNat:Nat):Int)) (by rw[m,List.map_map];rfl);show(Go.convert src dst (.slice (some (c.addr p.1 0)) (sOf (zc c p.2)).size (c.ext p.1))).run E.P w=_;rw[J,i,I,f]
   have key:∀(l:List UInt8) (r:ByteArray),(l.map fun b=>((b.toNat:Nat):Int)).foldl (fun r n=>r.push (UInt8.ofNat n.toNat)) r=⟨r.data++l.toArray⟩:=by
    intro l
    induction l with
    | nil=>intro r;simp
    | cons b l ih=>
     intro r;simp only[map_cons,foldl_cons];rw[ih];simp[ByteArray.push]
   rw[key];simp
  rename_i h2;obtain rfl:=jB h2;cases h;refine qh.sim ⟨?_,by intro b hb;cases hb⟩ hR;have i:=run_convert_bytes_string (P:=E.P) w src dst e none 0 0 (yf hE hs) (yf hE he) (yf hE hd);show(Go.convert src dst (.slice none 0 0)).run E.P w=_;rw[i]
  rfl
 | some s=>
  obtain rfl:=jP h1;rw[h1,zd]at h
  replace h:∃ns:List Nat,H.kM s.b s.off s.len=some (ns.map u8)/\v = .str (ns.map (· % 256))/\H'=H:=by
   cases hq:pkL H s with
   | some l=>
    rw[hq,zd]at h;cases h;obtain⟨f,_,z⟩:=zp1 hq;refine⟨l,z,?_,rfl⟩
    have:l.map (· % 256)=l:=by
     refine(List.map_congr_left (g:=fun b=>b) fun b hb=>?_).trans (List.map_id' l);exact mod_eq_of_lt (f b hb)
    rw[this]
   | none=>
    rw[hq,zm]at h;obtain⟨cs,hl,h⟩:=ze h;obtain⟨l,hb,h⟩:=ze h;cases h;obtain⟨ns,rfl,rfl⟩:=Wu hb;exact⟨ns,hl,rfl,rfl⟩
  obtain⟨ns,hl,rfl,rfl⟩:=h;obtain⟨g1,K,A⟩:=hR.kM hl hx.1;refine qh.sim ⟨?_,zsu c ns⟩ hR;have o:ns.map u8=ns.map fun n=>zb.int IntKind.u8 (Int.ofNat n):=rfl;rw[o,ziU]at A;have i:=run_convert_bytes_string (P:=E.P) w src dst e (some (c.addr s.b s.off)) s.len (if s.ex then s.cap else s.cap+c.ext s.b) (yf hE hs) (yf hE he) (yf hE hd);have f:=run_bytesToString (P:=E.P) w (c.addr s.b s.off) s.len (if s.ex then s.cap else s.cap+c.ext s.b) _ A;show(Go.convert src dst (.slice (some (c.addr s.b s.off)) s.len (if s.ex then s.cap else s.cap+c.ext s.b))).run E.P w=_;rw[i,f,fold_push,zc,zlU];simp
omit hE in
theorem X2{P:Program}(w:World):∀(ns:List Nat) (a:Addr) (acc:ByteArray),(∀j n,ns[j]?=some n->w.cell? (a.add j)=some (.int .u8 (.ofNat n))) ->
  (loadBytes a acc ns.length).run P w = .ok ⟨acc.data++(ns.map UInt8.ofNat).toArray⟩ w
 | [],a,acc,_=>by simp[loadBytes]
 | x::l,a,acc,h=>by
  have h0:w.cell? a=some (.int .u8 (.ofNat x)):=by
   have:=h 0 x rfl;simpa[Addr.add] using this
  have ih:=X2 (P:=P) w l (a.add 1) (acc.push (UInt8.ofNat x)) (fun j y hy=>by
   have:=h (j+1) y (by simpa using hy)
   have e:(a.add 1).add j=a.add (j+1):=by
    unfold Addr.add;by_cases hj:j=0
    .subst hj;simp
    .simp[hj];omega
   rw[e];exact this)
  have hx:((Int.ofNat x).toNat).toUInt8=UInt8.ofNat x:=by simp
  simp only[length_cons,loadBytes,Sem.run_bind,run_load,h0,Result.andThen,hx];rw[ih];congr 1
  apply ByteArray.ext;simp[ByteArray.push]
omit hE in
theorem zq2{P:Program}{e:TypeId}(hc:P.cellsOf e=1)(count off n:Nat)(hn:off+n<=count):liesAt P P.depth e count off e n=true:=by
 have hd:P.depth=(2*(P.types.size+Made.depth)+1)+1:=rfl;rw[hd];simp only[liesAt,Bool.or_eq_true];left;rw[hd];simp[rowAt,hc,hn,sameLayout,mod_one]
theorem Up{t:TypeId}{n:Nat}(h:E.size t=some n):E.P.cellsOf t=n:=by
 obtain⟨i,h1,h2,h3,b⟩:=Qy hE h;unfold Program.cellsOf;rw[h1];exact h3
theorem zei{c : Inj}{H H' : Heap}{w : World}(hR : Rel E.P c H w){i it ty : TypeId}{p v : zb}{n : Nat}(h : zgP E H i p n = some (v, H'))(hp : WF c p)(L : n <= 9223372036854775807) :
    Sim E.P c H w (Builtin.unsafeString_ #[i, it] ty #[zc c p, .int .i64 n]) v H' := by
  unfold zgP at h
  cases n with
  | zero =>
    rw[U8] at h
    have hs : ∃q, zc c p = .pointer q /\ v = .str [] /\ H' = H := by
      rw[zl] at h;by_cases h1 : zkE p = true
      · rw[if_pos h1] at h
        have := zn1 h1;subst this;cases h;exact⟨none, rfl, rfl, rfl⟩
      · rw[if_neg h1] at h
        replace h := ze h;obtain⟨q, hq, h⟩ := h;have := yz hq;subst this;cases h;exact⟨_, rfl, rfl, rfl⟩
    obtain⟨q, e1, rfl, rfl⟩ := hs;refine qh.sim ⟨?_, by intro b hb; cases hb⟩ hR;rw[e1]
    exact Lib.run_unsafeString_none w i it ty q
  | succ m =>
    rw[WL] at h;replace h := ze h;obtain⟨q, hq, h⟩ := h;have := yz hq;subst this;replace h := ze h;obtain⟨d, hd, h⟩ := h;replace h := ze h;obtain⟨u, U, h⟩ := h;have := zbL U;subst this;replace h := ze h;obtain⟨s, hs, h⟩ := h;replace h := ze h;obtain⟨r, D, h⟩ := h;replace h := zg h;obtain⟨hc, h⟩ := h;simp only[zk, Bool.and_eq_true, zG, zu, decide_eq_true_eq, beq_iff_eq] at hc;obtain⟨h60, rfl, C, hle⟩ := hc;have hle : q.2 + (m + 1) <= r.n := hle;replace h := ze h;obtain⟨cs, I, h⟩ := h;replace h := ze h;obtain⟨l, hl, h⟩ := h;cases h;obtain⟨ns, rfl, rfl⟩ := Wu hl;obtain⟨K, k2⟩ := Tr.jx _ _ _ _ I;rw[length_map] at K;obtain⟨arr, fz, g1, Z⟩ := hR.rowAt D hp;have X := Z.size;obtain⟨x, hx⟩ := Option.isSome_iff_exists.1 hp;have z : c.blk q.1 = x.1 := by simp[Inj.blk, hx]
    have A := zfx w (c.addr q.1 q.2) (m + 1);have A : JS x.1 w (w.freeze (c.addr q.1 q.2) (m + 1)) := by rw[<- z]; exact A
    obtain⟨b0, J, _⟩ := QR D;obtain⟨N, M⟩ := hR.drop h60 J hx A;refine Sim.zqi ?_ (zsu c ns) N M
    have o := X2 (P := E.P) w ns (c.addr q.1 q.2) .empty (fun j n hj => by
      rw[Inj.jF];have Y : j < ns.length := (List.getElem?_eq_some_iff.1 hj).1;refine(hR.cell D hp (v := .int .u8 (.ofNat n)) ?_).1
      rw[k2 j (by omega), List.getElem?_map, hj]; rfl)
    have f := Up hE hs
    have B : w.shape? (c.addr q.1 q.2).block = some (u, arr.size) := by
      show w.shape? (c.blk q.1) = _;unfold World.shape?; rw[g1]; simp[C]
    have g := zq2 (P := E.P) f (arr.size / E.P.cellsOf u) (c.sh q.1 + q.2) (m + 1) (by rw[f]; simp; omega)
    have t : Builtin.unsafeString_ #[i, it] ty #[.pointer (some (c.addr q.1 q.2)), .int .i64 ((m + 1 : Nat) : Int)] =
        (do
          let n <- Go.asInt (.int .i64 ((m + 1 : Nat) : Int))
          if n < 0 then runtimePanic (.error "unsafe.String: len out of range")
          if n > IntKind.i64.max then unsupported (.unsafePointer "String: a length above the largest int")
          if n = 0 then pure (.string .empty)
          else if <- variablesAt (c.addr q.1 q.2) (<- elemOf i) n.toNat then do
            let s <- loadBytes (c.addr q.1 q.2) .empty n.toNat
            freeze (c.addr q.1 q.2) n.toNat
            pure (.string s)
          else unsupported (.unsafePointer "String: not so many bytes at ptr")) := rfl
    have k : IntKind.i64.max = 9223372036854775807 := rfl;have T : ¬(((m + 1 : Nat) : Int) < 0) := by omega
    have Q : ¬(((m + 1 : Nat) : Int) > IntKind.i64.max) := by rw[k]; omega
    have O : ¬(((m + 1 : Nat) : Int) = 0) := by omega
    have G : liesAt E.P E.P.depth u (arr.size / E.P.cellsOf u) (c.addr q.1 q.2).off u (m + 1) = true := g;rw[K] at o;show(Builtin.unsafeString_ #[i, it] ty #[.pointer (some (c.addr q.1 q.2)), .int .i64 ((m + 1 : Nat) : Int)]).run E.P w = _;rw[t];simp only[Go.asInt, asIntOf, Sem.run_bind, Sem.run_pure, Result.andThen_ok, T, Q, O, if_false, variablesAt, elemOf, zr hE hd, run_program, run_shape, B, G, toNat_natCast, o, run_freeze, if_true];rw[zc, zlU];simp
end
end
section
variable[Unk]
section
variable{E:Env}(hE:yg E)
include hE
omit hE in
theorem zay{P:Program}{β:Inj}{H H':Heap}{w:World}(hR:Rel P β H w){x v:zb}(h:Kg H x=some (v,H'))(hx:WF β x)(ts:Array TypeId)(ty:TypeId) :
  Sim P β H w (Builtin.unsafeSliceData_ ts ty #[zc β x]) v H':=by
 unfold Kg at h
 cases h1:kN x with
 | none=>
  rw[h1,zm]at h;replace h:=zg h;obtain⟨h2,h⟩:=h;obtain rfl:=jB h2;cases h
  exact qh.sim ⟨rfl,trivial⟩ hR
 | some s=>
  obtain rfl:=jP h1;rw[h1,zd]at h;replace h:=YE h;obtain⟨m,hm,h⟩:=h;cases h;refine qh.sim ⟨?_,hx.1⟩ hR;exact Lib.run_unsafeSliceData_row w ts ty (β.addr s.b s.off) s.len _ (by split<;>omega)
theorem zbq{β:Inj}{H H':Heap}{w:World}(hR:Rel E.P β H w){src dst t:TypeId}{x v:zb}(hs:E.desc src=some (.pointer t))(hd:E.desc dst=some .unsafePointer)
  (h:zfl E H t x=some (v,H')) (hx:WF β x):Sim E.P β H w (Go.convert src dst (zc β x)) v H':=by
 replace h:=ze h;obtain⟨p,hp,h⟩:=h;obtain rfl:=yz hp;replace h:=ze h;obtain⟨s,c,h⟩:=h;replace h:=ze h;obtain⟨r,A,h⟩:=h;replace h:=YE h;obtain⟨m,hm,h⟩:=h;replace h:=zg h;obtain⟨z,h⟩:=h;rw[zN,decide_eq_true_eq]at z;cases h;refine qh.sim ⟨?_,hx⟩ hR;obtain⟨arr,fz,g1,B⟩:=hR.rowAt A hx;have o:=B.size;have u:w.shape? (β.blk p.1)=some (r.t,arr.size):=by unfold World.shape?;rw[g1]
 unfold Go.convert;simp only[Sem.run_bind,zr hE hs,zr hE hd,Result.andThen_ok,zc,Conv.unsafePointer,Conv.seenAt,viewAt,cellsIn,run_shape,Inj.addr,u,isSome_some,if_true,Sem.run_pure,qx hE c,hm,succ_ne_zero,decide_false];have:¬(arr.size<=β.sh p.1+p.2):=by omega
 simp[this]
theorem Ur{β:Inj}{H H':Heap}{w:World}(hR:Rel E.P β H w){src dst u:TypeId}{x v:zb}(hs:E.desc src=some .unsafePointer)(hd:E.desc dst=some (.pointer u))
  (h:zbi E H u x=some (v,H')) (hx:WF β x):Sim E.P β H w (Go.convert src dst (zc β x)) v H':=by
 replace h:=ze h;obtain⟨p,hp,h⟩:=h;obtain rfl:=yz hp;replace h:=ze h;obtain⟨s,o,h⟩:=h;replace h:=ze h;obtain⟨r,M,h⟩:=h;replace h:=YE h;obtain⟨m,hm,h⟩:=h;replace h:=zg h;obtain⟨hc,h⟩:=h;simp only[zk,Bool.and_eq_true,zG,zu,decide_eq_true_eq,beq_iff_eq]at hc;obtain⟨B,c,hle⟩:=hc;have c:p.2 % s=0:=c;have hle:p.2+s<=r.n:=hle;cases h;refine qh.sim ⟨?_,hx⟩ hR;obtain⟨arr,fz,g1,L⟩:=hR.rowAt M hx;have J:=L.size;have I:qX E.P u=s:=(Qy hE o).choose_spec.2.2.2;have G:=L.al;rw[B,I]at G;have A:=Up hE o;have K:w.shape? (β.blk p.1)=some (u,arr.size):=by unfold World.shape?;rw[g1,B]
 have C:s ∣ β.sh p.1+p.2:=Nat.dvd_add G (dvd_of_mod_eq_zero c)
 have z:liesAt E.P E.P.depth u (arr.size / E.P.cellsOf u) (β.sh p.1+p.2) u 1=true:=by
  have D:E.P.depth=(2*(E.P.types.size+Made.depth)+1)+1:=rfl
  have h1:(β.sh p.1+p.2) / s+1<=arr.size / s:=by
   rw[le_div_iff_mul_le (by omega),Nat.add_mul,Nat.div_mul_cancel C];omega
  have h2:(β.sh p.1+p.2) % s=0:=mod_eq_zero_of_dvd C;rw[D];simp only[liesAt,Bool.or_eq_true];left;rw[D];simp[rowAt,A,sameLayout,hm];left;rw[hm]at h1 h2;exact⟨h2,h1⟩
 unfold Go.convert;simp only[Sem.run_bind,zr hE hs,zr hE hd,Result.andThen_ok,zc,Conv.unsafePointer,Conv.seenAt,viewAt,run_shape,Inj.addr,K,isSome_some,if_true,Sem.run_pure,qx hE o,variablesAt,run_program,z,Bool.or_true]
theorem zd0{β:Inj}(hF:zC E β){H H':Heap}{w:World}(hR:Rel E.P β H w){src dst:TypeId}{x v:zb}(h:zlR E H src dst x=some (v,H'))(hx:WF β x) :
  Sim E.P β H w (Go.convert src dst (zc β x)) v H':=by
 replace h:=ze h;obtain⟨A,hd,h⟩:=h;replace h:=ze h;obtain⟨B,hs,h⟩:=h
 cases hk:Wo A with
 | some k=>
  rw[hk,zd]at h;obtain rfl:=Xw hk;replace h:=zg h;obtain⟨hi,h⟩:=h;replace h:=ze h;obtain⟨r,o,h⟩:=h;cases h;obtain⟨f,hf,e⟩:=qu o;obtain rfl:=zqX e;obtain⟨h1,h2,j,n,c,z⟩:=hF _ hf;refine qh.sim ⟨?_,h2⟩ hR;unfold Go.convert
  simp[zr hE hs,zr hE hd,c,z,Conv.intToInt]
 | none=>
  rw[hk,zm]at h;replace h:=zg h;obtain⟨hc,h⟩:=h;obtain rfl:=js hc;replace h:=ze h;obtain⟨r,o,h⟩:=h;obtain⟨f,hf,e⟩:=qu o;obtain rfl:=WM e;obtain⟨h1,h2,s,c,z⟩:=hF _ hf;rw[zl]at h;split at h
  case isFalse=>
   replace h:=ze h;obtain⟨e,he,h⟩:=h;obtain rfl:=jJ he;replace h:=ze h;obtain⟨d,p,h⟩:=h;replace h:=ze h;obtain⟨k,hk,h⟩:=h;obtain⟨hu,h⟩:=zg h;cases h;rw[c];exact zdv hE hR hs hd p hk hu hx c
  rename_i u;obtain rfl:=js u;cases h;refine qh.sim ⟨?_,hx⟩ hR;unfold Go.convert;simp[zr hE hs,c];rw[zr hE hd];simp
theorem zdR{β:Inj}(hF:zC E β){H H':Heap}{w:World}(hR:Rel E.P β H w){src dst:TypeId}{x v:zb}(h:zjn E H src dst x=some (v,H'))(hx:WF β x) :
  Sim E.P β H w (Go.convert src dst (zc β x)) v H':=by
 replace h:=ze h;obtain⟨C,hd,h⟩:=h;replace h:=ze h;obtain⟨B,hs,h⟩:=h
 cases h1:asInt x with
 | some p=>
  rw[h1,zd]at h;replace h:=ze h;obtain⟨k,hk,h⟩:=h;obtain rfl:=Xw hk;replace h:=ze h;obtain⟨i,hi,h⟩:=h;cases h
  exact qh.sim (zee hE hs hd hi) hR
 | none=>
  rw[h1,zm,zl]at h;split at h
  .rename_i c;obtain rfl:=js c;replace h:=ze h;obtain⟨s,o,h⟩:=h;obtain rfl:=qG o;rw[zl]at h;split at h
   .rename_i z;obtain rfl:=js z;cases h;refine qh.sim ⟨?_,hx⟩ hR;unfold Go.convert;simp[zr hE hs,zc];rw[zr hE hd];simp
   .replace h:=ze h;obtain⟨e,he,h⟩:=h;obtain rfl:=jJ he;exact zbp hE hR hs hd h hx
  .unfold zle at h
   cases h2:j8 B with
   | some e=>
    obtain rfl:=jJ h2;rw[h2,zd]at h;replace h:=zg h;obtain⟨h3,h⟩:=h;obtain rfl:=js h3
    exact zef hE hF hR hs hd h hx
   | none=>
    rw[h2,zm]at h
    cases h3:zkZ B with
    | some t=>
     obtain rfl:=zbL h3;rw[h3,zd]at h;replace h:=zg h;obtain⟨A,h⟩:=h;obtain rfl:=zds A
     exact zbq hE hR hs hd h hx
    | none=>
     rw[h3,zm]at h;replace h:=zg h;obtain⟨A,h⟩:=h;obtain rfl:=zds A;replace h:=ze h;obtain⟨u,hu,h⟩:=h;obtain rfl:=zbL hu;exact Ur hE hR hs hd h hx
omit hE in
theorem Vm{P:Program}{t:TypeId}{kd:TypeDesc}(hd:P.underlying t=some kd){a b:Value}{r:Bool}(h:Instr.sameNow kd a b=some r)(w:World):(Op.equal t a b).run P w = .ok r w:=by
 have hu:(Go.underlying t).run P w = .ok kd w:=run_underlying hd w;obtain⟨m,hm⟩:∃m,Op.maxDepth=m+1:=⟨Op.maxDepth-1,by decide⟩
 show(Op.equalIn Op.maxDepth t a b).run P w=_;rw[hm];unfold Instr.sameNow at h;split at h
 .split at h
  .rename_i hk;cases h;subst hk;simp[Op.equalIn,hu]
  .cases h
 .cases h;simp[Op.equalIn,hu]
 .cases h;simp[Op.equalIn,hu]
 .cases h
omit hE in
theorem Wl{P:Program}{t:TypeId}{kd:TypeDesc}(hd:P.underlying t=some kd){k:Value}(w:World):∀(l:List MapEntry) (i:Nat) (r:Option (Nat×Value)),Instr.findNow kd k l i=some r->(Instr.findAsking t k l i).run P w = .ok r w
 | [],i,r,h=>by cases h;rfl
 | e::l,i,r,h=>by
  unfold Instr.findNow at h;split at h
  .rename_i hs;cases h;simp[Instr.findAsking,Vm hd hs w]
  .rename_i hs;simp[Instr.findAsking,Vm hd hs w,Wl hd w l (i+1) r h]
  .cases h
omit hE in
theorem Jy{P:Program}{t:TypeId}{kd:TypeDesc}(hd:P.underlying t=some kd){k:Value}(w:World)(l:List MapEntry):(Instr.findKey t k l).run P w=(Instr.findAsking t k l).run P w:=by
 unfold Instr.findKey;rw[Sem.run_bind,run_underlying hd w,Result.andThen_ok]
 cases h:Instr.findNow kd k l 0 with
 | none=>rfl
 | some r=>exact(Wl hd w l 0 r h).symm
theorem ziq{β:Inj}(hF:zC E β){H:Heap}{t:TypeId}{kd:TypeDesc}(hd:E.desc t=some kd){k x:zb}{r:Bool}(h:zmu E H t k x=some r)(hf:WT E kd k=true)(hk:WF β k)(hx:WF β x)(w:World) :
  (Op.equal t (zc β k) (zc β x)).run E.P w = .ok r w:=by
 unfold zmu at h
 cases hs:jm k with
 | none=>
  rw[hs,zm]at h
  exact(UC hE β hF H w 10000).1 _ _ _ _ h hk hx Op.maxDepth (by decide)
 | some a=>
  obtain rfl:=qG hs;rw[hs,zd]at h;replace h:=ze h;obtain⟨b,hb,h⟩:=h;obtain rfl:=qG hb;cases h;have c:kF kd=true:=hf;obtain rfl:=js c;rw[zcW hk hx];obtain⟨m,hm⟩:∃m,Op.maxDepth=m+1:=⟨Op.maxDepth-1,by decide⟩
  show(Op.equalIn Op.maxDepth t _ _).run _ w=_;rw[hm];simp[zc,Op.equalIn,zr hE hd,beq_toListBytes]
theorem zar{β : Inj}(hF : zC E β){H : Heap}{t : TypeId}{kd : TypeDesc}(hd : E.desc t = some kd){k : zb}(hf : WT E kd k = true)(hk : WF β k)(w : World) : ∀(es : UI) (i : Nat) (f : Option zb),
    zml E H t k es = some f -> (∀e ∈ es, WF β e.1) ->
    ∃r, (Instr.findAsking t (zc β k) (es.map (QN β)) i).run E.P w = .ok r w /\
      match f with
      | none => r = none
      | some v => ∃j e, es[j]?=some e /\ e.1 = k /\ e.2.1 = v /\ r = some (i + j, zc β v) /\ ∀j' e', j' < j -> es[j']?=some e' -> qs k e'.1 = false
  | [], i, f, h, _ => by cases h; exact⟨none, rfl, rfl⟩
  | e :: es, i, f, h, hw => by
    have h : (bnd (zmu E H t k e.1) fun r => ifB (qs k e.1) (ifB r (some (some e.2.1)) none) (ifB r none (zml E H t k es))) = some f := h;replace h := ze h;obtain⟨r, D, h⟩ := h;have hq := ziq hE hF hd D hf hk (hw e (by simp)) w;have hq : (Op.equal t (zc β k) (QN β e).key).run E.P w = .ok r w := hq;rw[map_cons, Instr.findAsking, Sem.run_bind, hq, Result.andThen_ok];rw[zl] at h;split at h
    · rename_i hv
      replace h := zg h;obtain⟨h1, h⟩ := h;subst h1;cases h;exact⟨_, rfl, 0, e, rfl, (zM _ _ hv).symm, rfl, rfl, by intro j' e' G; omega⟩
    · rename_i hv
      replace h := yI h;obtain⟨h1, h⟩ := h;have h1 : r = false := by simpa using h1
      subst h1;obtain⟨r, z, u⟩ := zar hF hd hf hk w es (i + 1) f h (fun e' o => hw e' (by simp[o]));refine⟨r, z, ?_⟩
      cases f with
      | none => exact u
      | some v =>
        obtain⟨j, e', q1, q2, C, B, A⟩ := u;refine⟨j + 1, e', by simpa using q1, q2, C, by rw[B]; congr 2; omega, ?_⟩;intro j' p G c
        cases j' with
        | zero => simp at c; rw[<- c]; simpa using hv
        | succ j' => exact A j' p (by omega) (by simpa using c)
theorem zkU{β:Inj}{H:Heap}{w:World}(hR:Rel E.P β H w){x:zb}{es:UI}(h:H.zxm x=some es)(hx:WF β x) :
  (∀e∈es,WF β e.2.1/\WF β e.1/\zaV e.1=true) /\
  ((x = .nilmap/\es=[])\/∃r arr c,x = .map r/\w.heap[β.blk r]?=some (.map arr c)/\arr.toList=es.map (QN β)):=by
 have _:=hE;unfold Heap.zxm at h;rw[zl]at h;split at h
 .rename_i hn;obtain rfl:=za3 hn;cases h;exact⟨fun e he=>absurd he (by simp),.inl ⟨rfl,rfl⟩⟩
 .replace h:=ze h;obtain⟨r,o,h⟩:=h;obtain rfl:=Uy o;replace h:=ze h;obtain⟨b,hb,h⟩:=h;replace h:=ze h;obtain⟨m,hm,h⟩:=h;cases h
  cases b with
  | map es c=>
   cases hm;obtain⟨y,hy⟩:=Option.isSome_iff_exists.1 hx;obtain⟨arr,z,u,p⟩:=hR.blk r _ y hb hy
   exact⟨p,.inr ⟨r,arr,c,rfl,by simp[Inj.blk,hy];exact z,u⟩⟩
  | cells _ _ _=>cases hm
  | loop _ _ _ _ _ _ _ _=>cases hm
  | siter _ _=>cases hm
  | text _ _=>cases hm
  | pack _ _ _=>cases hm
  | ints _ _=>cases hm
  | view _=>cases hm
omit hE in
theorem Jx{P:Program}{α:Type}(g:α->PUnit->Sem (ForInStep PUnit))(w:World):∀(l:List α),(∀x∈l,(g x ⟨⟩).run P w = .ok (.yield ⟨⟩) w)->(forIn l (⟨⟩:PUnit) g).run P w = .ok ⟨⟩ w
 | [],_=>by simp
 | x::l,h=>by
  rw[forIn_cons,Sem.run_bind,h x (by simp),Result.andThen_ok];exact Jx g w l fun y hy=>h y (by simp[hy])
theorem Vl{w:World}{t:TypeId}{v:Value}{b:Bool}{n:Nat}(h:Y9 E t=true):(Instr.checkKey b (n+1) t v).run E.P w = .ok () w:=by
 unfold Y9 at h
 cases hd:E.desc t with
 | none=>rw[hd]at h;cases h
 | some d=>
  rw[hd,zd,zl]at h;rw[Instr.checkKey];split at h
  .rename_i hs;obtain rfl:=js hs;simp[zr hE hd]
  .cases hi:Wo d with
   | none=>rw[hi]at h;cases h
   | some k=>
    obtain rfl:=Xw hi;simp[zr hE hd]
omit hE in
theorem Vq{l:List zb}:∀(fs:List Field),YJ E l fs=true->∀f∈fs,Y9 E f.type=true/\∃v,E.apart f.type l f.offset=some v
 | [],_,f,hf=>by cases hf
 | d::fs,h,f,hf=>by
  have h:zn (zn (Y9 E d.type) (zh (E.apart d.type l d.offset) false kl)) (YJ E l fs)=true:=h;rw[zk,zk,Bool.and_eq_true,Bool.and_eq_true]at h;obtain⟨⟨h1,h2⟩,h3⟩:=h;rcases List.mem_cons.1 hf with rfl|hf
  .refine⟨h1,?_⟩
   cases ha:E.apart f.type l f.offset with
   | none=>rw[ha]at h2;cases h2
   | some v=>exact⟨v,rfl⟩
  .exact Vq fs h3 f hf
omit hE in
theorem KZ{l:List zb}{e:TypeId}{s:Nat}:∀(is:List Nat),K0 E e s l is=true->∀i∈is,∃v,E.apart e l (Nat.mul i s)=some v
 | [],_,f,hf=>by cases hf
 | d::is,h,f,hf=>by
  have h:zn (zh (E.apart e l (Nat.mul d s)) false kl) (K0 E e s l is)=true:=h;rw[zk,Bool.and_eq_true]at h;rcases List.mem_cons.1 hf with rfl|hf
  .cases ha:E.apart e l (Nat.mul f s) with
   | none=>rw[ha]at h;exact absurd h.1 (by simp)
   | some v=>exact⟨v,rfl⟩
  .exact KZ is h.2 f hf
theorem run_checkKey{w:World}{t:TypeId}{d:TypeDesc}{b:Bool}{k:zb}{β:Inj}(h:E.desc t=some d)(hf:WT E d k=true)(hk:WF β k):(Instr.checkKey b 10000 t (zc β k)).run E.P w = .ok () w:=by
 rw[show(10000:Nat)=9999+1 from rfl];cases k
 case str s=>
  have p:kF d=true:=hf;obtain rfl:=js p;rw[Instr.checkKey];simp[zr hE h]
 case int k n=>
  have hf:(zh (Wo d) false fun _=>true)=true:=hf
  cases hi:Wo d with
  | none=>rw[hi]at hf;cases hf
  | some k=>
   obtain rfl:=Xw hi;rw[Instr.checkKey];simp[zr hE h]
 case agg l=>
  have o:zn (Q0 kl l) (zh (ZS d) (zh (Qp d) false fun q=>zkC E l q) fun fs=>YJ E l fs)=true:=hf;clear hf;rw[zk,Bool.and_eq_true]at o
  cases hi:ZS d with
  | none=>
   rw[hi,zm]at o
   cases z:Qp d with
   | none=>rw[z]at o;exact absurd o.2 (by simp)
   | some q=>
    rw[z,zd]at o;obtain rfl:=Qo z;have hq:zn (Y9 E q.2) (zh (E.size q.2) false fun s=>K0 E q.2 s l (List.range q.1))=true:=o.2;rw[zk,Bool.and_eq_true]at hq
    cases hs:E.size q.2 with
    | none=>rw[hs]at hq;exact absurd hq.2 (by simp)
    | some C=>
     rw[hs,zd]at hq;have c:=KZ (E:=E) (List.range q.1) hq.2;rw[Instr.checkKey];simp only[Sem.run_bind,zr hE h,Result.andThen_ok,zc];simp only[Std.Legacy.Range.forIn_eq_forIn_range',Std.Legacy.Range.size,Nat.sub_zero,Nat.add_one_sub_one,Nat.div_one,<- List.range_eq_range'];rw[Jx _ w (List.range q.1)]
     .simp
     .intro i A;obtain⟨v,s2⟩:=c i A;have hp:=(Zt hE s2 hk w).1;have hp:(part q.2 (zf β l).toArray (i*C)).run E.P w = .ok (zc β v) w:=hp
      simp only[Sem.run_bind,qx hE hs,hp,Result.andThen_ok,Vl hE (n:=9998) hq.1,Sem.run_pure]
  | some fs=>
   rw[hi,zd]at o;have p:=Xv hi;obtain⟨u,G,D⟩:=p;subst G;subst D;rw[Instr.checkKey];simp only[Sem.run_bind,zr hE h,Result.andThen_ok,zc];rw[<- Array.forIn_toList];have c:=Vq (E:=E) u.toList o.2;rw[Jx _ w u.toList]
   .simp
   .intro f B;obtain⟨s1,v,s2⟩:=c f B;have hp:=(Zt hE s2 hk w).1;by_cases hn:f.name = "_"
    .simp[hn]
    .simp only[ne_eq,hn,not_false_eq_true,if_true,Sem.run_bind,hp,Result.andThen_ok,Vl hE (n:=9998) s1,Sem.run_pure]
 all_goals cases hf
theorem zeg{β : Inj}(hF : zC E β){H : Heap}{w : World}(hR : Rel E.P β H w){t : TypeId}{x k v : zb}{ok : Bool}(h : zm4 E H t x k ok = some v)(hx : WF β x)(hk : WF β k) :
    qh E.P β w (Instr.lookup t (zc β x) (zc β k) ok) v := by
  replace h := ze h;obtain⟨d, hd, h⟩ := h;replace h := ze h;obtain⟨q, hq, h⟩ := h;have := zbM hq;subst this;replace h := ze h;obtain⟨kd, o, h⟩ := h;replace h := zg h;obtain⟨p, h⟩ := h;replace h := ze h;obtain⟨es, C, h⟩ := h;replace h := ze h;obtain⟨f, hf, h⟩ := h;obtain⟨I, Q⟩ := zkU hE hR C hx
  have key : ∀(arr : Array MapEntry), arr.toList = es.map (QN β) ->
      ((do
        Instr.checkKey arr.isEmpty 10000 q.1 (zc β k)
        let(v, ok') <- match <- Instr.findKey q.1 (zc β k) arr.toList with
          | some (_, v) => pure (v, true)
          | none => do pure (<- zeroValue q.2, false)
        pure (if ok then .tuple #[v, .bool ok'] else v)) : Sem Value).run E.P w = .ok (zc β v) w /\ WF β v := by
    intro arr A;obtain⟨r, K, G⟩ := zar hE hF o p hk w es 0 f hf (fun e he => (I e he).2.1)
    have B : (Instr.findKey q.1 (zc β k) arr.toList).run E.P w = .ok r w := by
      rw[Jy (yf hE o), A, K]
    simp only[Sem.run_bind, run_checkKey hE o p hk, Result.andThen_ok, B]
    cases f with
    | none =>
      rw[zm] at h;replace h := ze h;obtain⟨z, N, h⟩ := h;cases h;obtain⟨J, D⟩ := kJ hE N β w;rw[show r = none from G];simp only[Sem.run_bind, J, Result.andThen_ok, Sem.run_pure]
      cases ok with
      | false => exact⟨rfl, D⟩
      | true => exact⟨by simp[Wc, zc, zf], by simp[Wc, WF, WFs, D]⟩
    | some u =>
      rw[zd] at h;cases h;obtain⟨j, e, q1, q2, M, L, _⟩ := G;have hu : WF β u := by rw[<- M]; exact(I e (List.mem_of_getElem? q1)).1
      rw[L];simp only[Sem.run_bind, Result.andThen_ok, Sem.run_pure]
      cases ok with
      | false => exact⟨rfl, hu⟩
      | true => exact⟨by simp[Wc, zc, zf], by simp[Wc, WF, WFs, hu]⟩
  unfold qh Instr.lookup;simp only[Sem.run_bind, zr hE hd, Result.andThen_ok];rcases Q with⟨rfl, rfl⟩|⟨r, arr, c, rfl, g1, O⟩
  · have := key #[] rfl
    simp only[Sem.run_bind] at this;rw[show zc β .nilmap = .map none from rfl];simp only[Sem.run_bind, Sem.run_pure, Result.andThen_ok];exact this
  · have := key arr O
    simp only[Sem.run_bind] at this;rw[show zc β (.map r) = .map (some (β.blk r)) from rfl];simp only[Sem.run_bind, MapKept.run_getObj_map g1, Result.andThen_ok, Sem.run_pure];exact this
omit hE in
theorem zcN{k:zb}{v:zb}:∀ {es:UI}{j:Nat}{e:zb×zb×Nat},es[j]?=some e->qs k e.1=true->(∀j' e',j'<j->es[j']?=some e'->qs k e'.1=false) ->
  zts k v es=es.set j (e.1,v,e.2.2)
 | [],j,e,h,_,_=>by cases h
 | x::es,j,e,h,hk,hn=>by
  have hm:zts k v (x::es)=ifB (qs k x.1) ((x.1,v,x.2.2)::es) (x::zts k v es):=rfl;rw[hm]
  cases j with
  | zero=>
   cases h
   rw[hk,qK];rfl
  | succ j=>
   rw[hn 0 x (by omega) rfl,kT,zcN (j:=j) (e:=e) (by simpa using h) hk (fun j' e' h1 h2=>hn (j'+1) e' (by omega) (by simpa using h2))];rfl
omit hE in
theorem Vn(β:Inj)(n:Nat):∀ {l:List zb},l.all kl=true->((zf β l).zip (zf β l)).all (fun(x,y)=>Instr.sameBits n x y)=true
 | [],_=>rfl
 | v::l,h=>by
  rw[all_cons,Bool.and_eq_true]at h;have:=Vn β n h.2;rw[zf,zip_cons_cons,all_cons,this];have h1:=h.1;cases v<;>first|(cases h1;done)|(cases n<;>simp[zc,Instr.sameBits,MapKept.bytes_beq])
omit hE in
theorem zfK(β:Inj){v:zb}(h:zaV v=true):Instr.sameBits 10000 (zc β v) (zc β v)=true:=by
 cases v
 case agg l=>
  have h:l.all kl=true:=by have h:Q0 kl l=true:=h;rwa[ZX]at h
  have:=Vn β 9999 h;show((zf β l).toArray.size==(zf β l).toArray.size&&_)=true;simpa using this
 all_goals first|(cases h;done)|(simp[zc,Instr.sameBits,MapKept.bytes_beq])
theorem zkB{d:TypeDesc}{k:zb}(h:WT E d k=true):zaV k=true:=by
 have _:=hE;cases k
 case agg l=>
  have hf:zn (Q0 kl l) (zh (ZS d) (zh (Qp d) false fun q=>zkC E l q) fun fs=>YJ E l fs)=true:=h;rw[zk,Bool.and_eq_true]at hf;exact hf.1
 all_goals first|rfl|cases h
omit hE in
theorem Vg{v:zb}(h:kl v=true):qs v v=true:=by
 cases v<;>first|(cases h;done)|simp[qs,XG,zk,QA,Xk,KX]
omit hE in
theorem XT:∀ {l:List zb},l.all kl=true->kv l l=true
 | [],_=>by simp[kv]
 | v::l,h=>by
  rw[all_cons,Bool.and_eq_true]at h;simp[kv,zk,Vg h.1,XT h.2]
omit hE in
theorem Vh{v:zb}(h:zaV v=true):qs v v=true:=by
 cases v
 case agg l=>
  have h:l.all kl=true:=by have h:Q0 kl l=true:=h;rwa[ZX]at h
  simp[qs,XT h]
 all_goals exact Vg h
theorem YX{β:Inj}(hF:zC E β){H H':Heap}{w:World}(hR:Rel E.P β H w){t:TypeId}{m k v:zb}(h:zdN E H t m k v=some H')(hm:WF β m)(hk:WF β k)(hv:WF β v) :
  ∃w',(Instr.mapUpdate t (zc β m) (zc β k) (zc β v)).run E.P w = .ok () w'/\Rel E.P β H' w'/\Ext β H w β H' w':=by
 replace h:=ze h;obtain⟨d,hd,h⟩:=h;replace h:=ze h;obtain⟨q,hq,h⟩:=h;obtain rfl:=zbM hq;replace h:=ze h;obtain⟨kd,K,h⟩:=h;replace h:=zg h;obtain⟨J,h⟩:=h;replace h:=ze h;obtain⟨r,hr,h⟩:=h;obtain rfl:=Uy hr;replace h:=ze h;obtain⟨b,hb,h⟩:=h;replace h:=ze h;obtain⟨p,hp,h⟩:=h;replace h:=zg h;obtain⟨h60,h⟩:=h;rw[zG,decide_eq_true_eq]at h60;replace h:=ze h;obtain⟨f,hf,h⟩:=h;cases h
 cases b with
 | cells _ _ _=>cases hp
 | loop _ _ _ _ _ _ _ _=>cases hp
 | siter _ _=>cases hp
 | text _ _=>cases hp
 | pack _ _ _=>cases hp
 | ints _ _=>cases hp
 | view _=>cases hp
 | map es c=>
  cases hp;obtain⟨y,hy⟩:=Option.isSome_iff_exists.1 hm;obtain⟨arr,a1,O,N⟩:=hR.blk r _ y hb hy;have D:β.blk r=y.1:=by simp[Inj.blk,hy]
  have C:w.heap[β.blk r]?=some (.map arr c):=by rw[D];exact a1
  have T:=(Array.getElem?_eq_some_iff.1 C).1
  have ht:∀o,JS y.1 w { w with heap:=w.heap.setIfInBounds (β.blk r) o }:=fun o=>
   ⟨fun i hi=>by simp only[getElem?_setIfInBounds];rw[if_neg (by rw[D];exact fun e=>hi e.symm)],by simp,rfl,rfl,rfl⟩
  have M:∀o,({ w with heap:=w.heap.setIfInBounds (β.blk r) o }:World).heap[y.1]?=some o:=fun o=>by
   rw[<- D];simp[T]
  obtain⟨u,Y,X⟩:=zar hE hF K J hk w es 0 f hf (fun e he=>(N e he).2.1);rw[<- O]at Y;have Q:(Instr.findKey q.1 (zc β k) arr.toList).run E.P w = .ok u w:=by rw[Jy (yf hE K),Y]
  have U:=run_checkKey hE (w:=w) (b:=false) K J hk;have A:=zkB hE J;unfold Instr.mapUpdate;rw[show zc β (.map r) = .map (some (β.blk r)) from rfl];simp only[Sem.run_bind,zr hE hd,Result.andThen_ok,MapKept.run_getObj_map C,U,Q];unfold zqI
  cases f with
  | none=>
   rw[show u=none from X,zm];have z:=MapKept.run_setObj_map (P:=E.P) (w:=w) (.map (arr.push { key:=zc β k,val:=zc β v,born:=c }) (c+1)) C;refine⟨_,z,?_⟩;refine hR.zpd h60 hb hy (ht _) ⟨_,M _,?_,?_⟩
   .rw[toList_push,O,zT,List.map_append];rfl
   .intro e he;rw[zT]at he;rcases List.mem_append.1 he with he|he
    .exact N e he
    .rw[List.mem_singleton.1 he];exact⟨hv,hk,A⟩
  | some val=>
   obtain⟨j,e,q1,q2,q3,q4,Z⟩:=X;rw[q4,zd]
   have L:arr[0+j]?=some (QN β e):=by
    rw[Nat.zero_add,<- getElem?_toList,O,List.getElem?_map,q1];rfl
   have G:Instr.sameBits 10000 (QN β e).key (zc β k)=true:=by
    show Instr.sameBits 10000 (zc β e.1) (zc β k)=true;rw[q2];exact zfK β A
   have z:=MapKept.run_setObj_map (P:=E.P) (w:=w) (.map (arr.modify (0+j) fun e=>{ e with key:=zc β k,val:=zc β v }) c) C;refine⟨{ w with heap:=w.heap.setIfInBounds (β.blk r) (.map (arr.modify (0+j) fun e=>{ e with key:=zc β k,val:=zc β v }) c) },?_,?_⟩
   .simp only[Sem.run_bind,L,map_some,getD_some,Instr.keyThatStays,G,if_true,Sem.run_pure,Result.andThen_ok];exact z
   refine hR.zpd h60 hb hy (ht _) ⟨_,M _,?_,?_⟩
   .have I:qs k e.1=true:=by rw[q2];exact Vh A
    rw[zcN q1 I Z];apply List.ext_getElem?;intro n;rw[getElem?_toList,Array.getElem?_modify,Nat.zero_add,List.getElem?_map,List.getElem?_set];by_cases hn:j=n
    .subst hn;have:j<es.length:=(List.getElem?_eq_some_iff.1 q1).1;rw[Nat.zero_add]at L;simp[L,this,QN,q2]
    .rw[if_neg hn,if_neg hn,<- getElem?_toList,O,List.getElem?_map]
   .intro e' B;have I:qs k e.1=true:=by rw[q2];exact Vh A
    rw[zcN q1 I Z]at B;rcases List.mem_or_eq_of_mem_set B with B|rfl
    .exact N e' B
    .exact⟨hv,(N e (List.mem_of_getElem? q1)).2⟩
end
end
section
variable[Unk]
def Yx(E:Env)(β:Inj):Prop:=∀fn q,E.alts.get fn=some q->∀(i:Nat) l,q.2[i]?=some l->∃alt∈l,∀f∈alt,zq E.P E.tabs β f
theorem Yx.mono{E:Env}{β β':Inj}(l:β.le β')(h:Yx E β):Yx E β':=fun fn q hq i x hx=>by
 obtain⟨alt,h1,h2⟩:=h fn q hq i x hx;exact⟨alt,h1,fun f b=>(h2 f b).mono l⟩
theorem QG{E:Env}{β:Inj}(h:E.alts = .nil):Yx E β:=fun fn q hq=>by rw[h,Tr.get_nil]at hq;cases hq
structure Yv(E:Env)(β:Inj)(H:Heap):Prop where
 at_:∀g,g<100->β g=some (Unk.place g)
 next:100<=H.next
 facts:zC E β
 tabs:∀p∈E.tabs,p.1<100/\H.blk.get p.1=some p.2
 alts:Yx E β
theorem Yv.ext{E:Env}{β β':Inj}{H H':Heap}{w w':World}(h:Yv E β H)(hb:∀id x,β id=some x->id<H.next)(e:Ext β H w β' H' w'):Yv E β' H' where
 at_:=fun g b=>by rw[e.old g (Nat.lt_of_lt_of_le b h.next)];exact h.at_ g b
 next:=Nat.le_trans h.next e.next
 facts:=h.facts.mono (e.le hb)
 tabs:=fun p hp=>⟨(h.tabs p hp).1,(e.ro p.1 (h.tabs p hp).1).trans (h.tabs p hp).2⟩
 alts:=h.alts.mono (e.le hb)
def zgS(P:Program)(β:Inj)(H:Heap)(w:World)(m:Sem Next)(v:zb)(H':Heap):Prop:=
 ∃β' w' nx,m.run P w = .ok nx w'/\(nx = .value (zc β' v)\/(nx = .skip/\v=jf))/\WF β' v/\Rel P β' H' w'/\Ext β H w β' H' w'
theorem Sim.next{P:Program}{β:Inj}{H H':Heap}{w:World}{m:Sem Value}{v:zb}(h:Sim P β H w m v H'):zgS P β H w (do pure (.value (<- m))) v H':=by
 obtain⟨β',w',h1,h2,h3,b⟩:=h;refine⟨β',w',_,?_,.inl rfl,h2,h3,b⟩;simp only[Sem.run_bind,h1,Result.andThen_ok,Sem.run_pure]
theorem qh.next{P:Program}{β:Inj}{H:Heap}{w:World}{m:Sem Value}{v:zb}(hR:Rel P β H w)(h:qh P β w m v):zgS P β H w (do pure (.value (<- m))) v H:=(h.sim hR).next
theorem zgS.skip{P:Program}{β β':Inj}{H H':Heap}{w w':World}{m:Sem Unit}(h1:m.run P w = .ok () w')(h2:Rel P β' H' w')(h3:Ext β H w β' H' w'):zgS P β H w (do m;pure .skip) jf H':=by
 refine⟨β',w',.skip,?_,.inr ⟨rfl,rfl⟩,by simp,h2,h3⟩;simp only[Sem.run_bind,h1,Result.andThen_ok,Sem.run_pure]
theorem qQ{H H':Heap}{x:Option zb}{v:zb}(h:Z7 H x=some (v,H')):x=some v/\H'=H:=by
 replace h:=ze h;obtain⟨a,ha,h⟩:=h;cases h;exact⟨ha,rfl⟩
theorem Q2{c β:Type}{l:List β}{r:Option c}{a:c}(h:l1 l r=some a):l=[]/\r=some a:=by
 cases l with
 | nil=>exact⟨rfl,h⟩
 | cons b l=>cases h
section
variable{E:Env}(hE:yg E)
include hE
theorem zdS{β:Inj}{H H':Heap}{w:World}(hR:Rel E.P β H w){b:Builtin}{l:Array TypeId}{args:List zb}{v:zb}(h:UD E H b l.toList args=some (v,H'))(hx:WFs β args)(hF:zC E β)
  (ty:TypeId) (cs:Array Bool) (as:Array Value) (has:as.toList=zf β args):zgS E.P β H w (builtin b l ty cs as) v H':=by
 have j:as=(zf β args).toArray:=by rw[<- has]
 subst j;unfold UD at h
 cases args with
 | nil=>cases h
 | cons x r=>
  rw[ZK]at h;obtain⟨J⟩:=l
  cases J with
  | nil=>cases h
  | cons t us=>
   simp only[ZK]at h;obtain⟨d,i⟩:=hx;cases b<;>try(cases h;done)
   case append=>
    cases r with
    | nil=>cases h
    | cons y q=>
     cases us with
     | nil=>cases h
     | cons u vs=>
      simp only[ZK]at h;replace h:=Q2 h;obtain⟨c,h⟩:=h;subst c;replace h:=Q2 h;obtain⟨c,h⟩:=h;subst c;exact(zeh hE hF hR h d i.1 ty).next
   case cap=>
    replace h:=qQ h;obtain⟨h,g⟩:=h;subst g;exact(zlD hE h d _ ty rfl _ rfl).next hR
   case clear=>
    replace h:=Q2 h;obtain⟨c,h⟩:=h;subst c;exact(zgN hE hR h d _ rfl ty).next
   case copy=>
    cases r with
    | nil=>cases h
    | cons y q=>
     simp only[ZK]at h;replace h:=Q2 h;obtain⟨c,h⟩:=h;subst c;exact(zjm hE hR h d i.1 _ rfl ty).next
   case len=>
    replace h:=qQ h;obtain⟨h,g⟩:=h;subst g;exact(zlC hE hF hR h d _ ty rfl _ rfl).next hR
   case max=>
    replace h:=qQ h;obtain⟨h,g⟩:=h;subst g
    cases hm:zxA r x with
    | some q=>
     rw[hm,zd]at h;cases h
     exact(zlz (w:=w) r x _ hm d i).next hR
    | none=>
     rw[hm,zm]at h
     cases r with
     | nil=>cases h
     | cons y q=>
      replace h:=Q2 h;obtain⟨c,h⟩:=h;subst c;obtain⟨f,B,e⟩:=qu h;obtain rfl:=ztx e;obtain⟨h1,h2,h3,k,m,n,I,G,D⟩:=hF _ B;have A:qh E.P β w ((zf β [y]).foldlM Builtin.max2 (zc β x)) v:=⟨by simp[zf,I,G,D,Builtin.max2],h3⟩
      exact A.next hR
   case min=>
    replace h:=qQ h;obtain⟨h,g⟩:=h;subst g
    cases hm:zxz r x with
    | some q=>
     rw[hm,zd]at h;cases h
     exact(zly (w:=w) r x _ hm d i).next hR
    | none=>
     rw[hm,zm]at h
     cases r with
     | nil=>cases h
     | cons y q=>
      replace h:=Q2 h;obtain⟨c,h⟩:=h;subst c;obtain⟨f,B,e⟩:=qu h;obtain rfl:=ztw e;obtain⟨h1,h2,h3,k,m,n,I,G,D⟩:=hF _ B;have A:qh E.P β w ((zf β [y]).foldlM Builtin.min2 (zc β x)) v:=⟨by simp[zf,I,G,D,Builtin.min2],h3⟩
      exact A.next hR
   case unsafeSliceData=>
    replace h:=Q2 h;obtain⟨c,h⟩:=h;subst c;exact(zay hR h d _ ty).next
   case unsafeString=>
    cases r with
    | nil=>cases h
    | cons y q=>
     cases us with
     | nil=>cases h
     | cons u vs=>
      simp only[ZK]at h;replace h:=Q2 h;obtain⟨c,h⟩:=h;subst c;replace h:=Q2 h;obtain⟨c,h⟩:=h;subst c;replace h:=ze h;obtain⟨p,hp,h⟩:=h;obtain rfl:=jr hp;replace h:=zg h;obtain⟨h1,h⟩:=h;have:=Zd h1;replace h:=jj h;obtain⟨n,hn,h⟩:=h;replace h:=zg h;obtain⟨h2,h⟩:=h;rw[zG,decide_eq_true_eq]at h2;have z:=(zei hE hR (it:=u) (ty:=ty) h d (by omega)).next;have C:zc β (.int p.1 p.2) = .int .i64 n:=by simp only[zc];rw[hn,Zd h1];rfl
      show zgS E.P β H w (do pure (.value (<- Builtin.unsafeString_ #[t,u] ty (zf β [x,.int p.1 p.2]).toArray))) v H';simp only[zf,C];exact z
def Wz(T:Tr zb)(β:Inj)(ρ:Operand->Value)(l:Array Operand):Prop:=∀x∈l,∀v,ev T x=some v->ρ x=zc β v/\WF β v
omit hE in
theorem zkT{T:Tr zb}{β:Inj}{ρ:Operand->Value}{o:Option Operand}{v:Option zb}(h:evO T o=some v)(hρ:∀x∈o,∀v,ev T x=some v->ρ x=zc β v/\WF β v) :
  o.map ρ=v.map (zc β):=by
 cases o with
 | none=>cases h;rfl
 | some x=>
  have h:(bnd (ev T x) fun v=>some (some v))=some v:=h;replace h:=ze h;obtain⟨a,ha,h⟩:=h;cases h;rw[map_some,(hρ x rfl a ha).1];rfl
theorem zd7{β:Inj}{H:Heap}{w:World}(hR:Rel E.P β H w){t:TypeId}{r:Option Value}(d:∀v∈r,(∃k n,v = .int k n)/\∃q:TypeId×TypeId,E.desc t=some (.map q.1 q.2)) :
  Sim E.P β H w (Instr.makeMap t r) (.map H.next) ⟨H.blk.set H.next (.map [] 0),H.next+1⟩:=by
 obtain⟨c,b⟩:=hR.add (.map [] 0) (.map #[] 0) 0 ⟨#[],yo _ _,rfl,by intro e he;cases he⟩;refine⟨β.put H.next (w.heap.size,0,0),push w (.map #[] 0),?_,by simp[WF,Inj.zL],c,b⟩;unfold Instr.makeMap;have hc:zc (β.put H.next (w.heap.size,0,0)) (.map H.next) = .map (some w.heap.size):=by simp[zc,Inj.blk,Inj.zL]
 rw[hc]
 cases r with
 | none=>simp only[Sem.run_bind,run_newObj,Sem.run_pure,Result.andThen_ok];rfl
 | some v=>
  obtain⟨⟨k,n,rfl⟩,q,hq⟩:=d v rfl;simp only[Sem.run_bind,zr hE hq,Result.andThen_ok,Go.asInt,asIntOf,run_newObj,Sem.run_pure];rfl
theorem decode_ascii{s:List Nat}{p c:Nat}(h:s[p]?=some c)(hc:c<128):Utf8.decode (str s) p=(c,1):=by
 have _:=hE;have hp:=(List.getElem?_eq_some_iff.1 h).1
 have b:((str s).get! p).toNat=c:=by
  have e:(str s).get! p=UInt8.ofNat c:=by
   show(str s).data[p]! = _
   have:(str s).data[p]?=some (UInt8.ofNat c):=by
    rw[<- getElem?_toList];simp[XZ,h]
   rw[getElem!_def,this]
  rw[e];simp;omega
 unfold Utf8.decode;simp only[Nat.add_zero,b];rw[if_pos (by omega)]
theorem zhI{β:Inj}{H:Heap}{w:World}(hR:Rel E.P β H w){t:TypeId}{s:List Nat}(hd:E.desc t=some .string)(hs:∀b∈s,b<256) :
  Sim E.P β H w (Instr.range t (.string (str s))) (.ptr H.next 0) ⟨H.blk.set H.next (.siter s 0),H.next+1⟩:=by
 obtain⟨d,c⟩:=hR.add (.siter s 0) (.stringIter (str s) 0) 0 ⟨yo _ _,rfl,hs⟩;refine⟨β.put H.next (w.heap.size,0,0),push w (.stringIter (str s) 0),?_,by simp[WF,Inj.zL],d,c⟩;unfold Instr.range;have hc:zc (β.put H.next (w.heap.size,0,0)) (.ptr H.next 0) = .pointer (some ⟨w.heap.size,0,none⟩):=by simp[zc,Inj.addr,Inj.blk,Inj.sh,Inj.zL]
 rw[hc];simp only[Sem.run_bind,zr hE hd,Result.andThen_ok,run_newObj,Sem.run_pure];rfl
theorem zkv{β:Inj}{H H':Heap}{w:World}(hR:Rel E.P β H w){b:Nat}{s:List Nat}{p:Nat}{v:zb}(hb:H.blk.get b=some (.siter s p))(h60:100<=b)(hw:(β b).isSome)(h:zc6 H b s p=some (v,H'))(ty:TypeId) :
  Sim E.P β H w (Instr.next (zc β (.ptr b 0)) true ty) v H':=by
 obtain⟨y,j⟩:=Option.isSome_iff_exists.1 hw;obtain⟨m,n,A⟩:=hR.blk b _ y hb j;have u:β.blk b=y.1:=by simp[Inj.blk,j]
 have hc:zc β (.ptr b 0) = .pointer (some ⟨y.1,0,none⟩):=by simp[zc,Inj.addr,Inj.blk,Inj.sh,j,n]
 have d:(getObj y.1).run E.P w = .ok (.stringIter (str s) p) w:=by simp[getObj,Sem.run,m]
 have f:∀o,(setObj y.1 o).run E.P w = .ok () { w with heap:=w.heap.setIfInBounds y.1 o }:=fun o=>by simp[setObj,Sem.run,m]
 have k:=(Array.getElem?_eq_some_iff.1 m).1;unfold zc6 at h;rw[ye]at h;unfold Instr.next;rw[hc]
 cases hn:s[p]? with
 | none=>
  rw[hn,zm]at h;cases h;have l:¬p<(str s).size:=by rw[qm];exact Nat.not_lt.2 (List.getElem?_eq_none_iff.1 hn)
  refine qh.sim ⟨?_,by simp[WF,WFs]⟩ hR;simp only[Sem.run_bind,d,Result.andThen_ok];rw[if_neg l]
  simp[zc,zf]
 | some c=>
  rw[hn,zd]at h;replace h:=zg h;obtain⟨g,h⟩:=h;rw[zN,decide_eq_true_eq]at g;simp only[zY]at h;cases h;have hl:p<(str s).size:=by rw[qm];exact(List.getElem?_eq_some_iff.1 hn).1
  have z:JS y.1 w { w with heap:=w.heap.setIfInBounds y.1 (.stringIter (str s) (p+1)) }:=
   ⟨fun i hi=>by simp only[getElem?_setIfInBounds];rw[if_neg (fun e=>hi e.symm)],by simp,rfl,rfl,rfl⟩
  obtain⟨t,r⟩:=hR.zpd (b':=.siter s (p+1)) h60 hb j z ⟨by simp[k],n,A⟩;refine⟨β,_,?_,by simp[WF,WFs],t,r⟩;simp only[Sem.run_bind,d,Result.andThen_ok];rw[if_pos hl,decode_ascii hE hn g];simp only[Sem.run_bind,f,Result.andThen_ok,Sem.run_pure];simp[zc,zf,goInt]
theorem zfs{β:Inj}{H H':Heap}{w:World}(hR:Rel E.P β H w)(hF:zC E β){rec:Rec}{T:Tr zb}{o:Oper}{v:zb}(h:aop o.op E rec T H=some (v,H')){ρ:Operand->Value}
  (hρ:Wz T β ρ o.op.operands) (hc:∀c,o.op = .call c->∃b,c.callee = .builtin b):zgS E.P β H w (execOp ρ o) v H':=by
 obtain⟨dst,op,ty,pos,af,gd⟩:=o;simp only at h hρ hc;unfold execOp;cases op
 case move x=>
  replace h:=qQ h;obtain⟨h,j⟩:=h;subst j;obtain⟨h1,h2⟩:=hρ x (by simp[Op.operands]) v h;exact⟨β,w,.value (ρ x),by simp,.inl (by rw[h1]),h2,hR,.refl _ _ _ hR.bnd⟩
 case assign x=>
  replace h:=qQ h;obtain⟨h,j⟩:=h;subst j;obtain⟨h1,h2⟩:=hρ x (by simp[Op.operands]) v h;exact⟨β,w,.value (ρ x),by simp,.inl (by rw[h1]),h2,hR,.refl _ _ _ hR.bnd⟩
 case pick c a b=>
  replace h:=ze h;obtain⟨u,D,h⟩:=h;replace h:=ze h;obtain⟨q,hq,h⟩:=h;obtain rfl:=Qv hq;obtain⟨g1,G⟩:=hρ c (by simp[Op.operands]) _ D
  cases q with
  | true=>
   rw[qK]at h;replace h:=qQ h;obtain⟨h,j⟩:=h;subst j;obtain⟨h1,h2⟩:=hρ a (by simp[Op.operands]) v h;refine⟨β,w,.value (ρ a),?_,.inl (by rw[h1]),h2,hR,.refl _ _ _ hR.bnd⟩
   simp[g1,zc,Go.asBool]
  | false=>
   rw[kT]at h;replace h:=qQ h;obtain⟨h,j⟩:=h;subst j;obtain⟨h1,h2⟩:=hρ b (by simp[Op.operands]) v h;refine⟨β,w,.value (ρ b),?_,.inl (by rw[h1]),h2,hR,.refl _ _ _ hR.bnd⟩;simp[g1,zc,Go.asBool]
 case alloc t=>
  replace h:=ze h;obtain⟨z,U,h⟩:=h;have h:=jX h;cases h;exact(zjg hE hR U).next
 case box t x=>
  replace h:=ze h;obtain⟨u,D,h⟩:=h;replace h:=zg h;obtain⟨_,h⟩:=h;have h:=jX h;cases h;obtain⟨g1,G⟩:=hρ x (by simp[Op.operands]) _ D;simp only[g1];exact(zoE hR t G).next
 case build t parts=>
  replace h:=ze h;obtain⟨z,U,h⟩:=h;replace h:=ze h;obtain⟨X,K,h⟩:=h;replace h:=ze h;obtain⟨d,hd,h⟩:=h;replace h:=ze h;obtain⟨l,hl,h⟩:=h;cases h;obtain⟨g1,G⟩:=VV (ρ:=ρ) parts.toList X K (fun x hx v hv=>hρ x (by simpa[Op.operands] using hx) v hv);exact(zi6 hE U hd hl G _ (by rw[Array.toList_map];exact g1)).next hR
 case buildSlice t len parts=>
  replace h:=ze h;obtain⟨d,hd,h⟩:=h;replace h:=ze h;obtain⟨e,he,h⟩:=h;obtain rfl:=jJ he;replace h:=ze h;obtain⟨X,K,h⟩:=h;replace h:=ze h;obtain⟨s,hs,h⟩:=h;replace h:=ze h;obtain⟨z,U,h⟩:=h;replace h:=zg h;obtain⟨hb,h⟩:=h;rw[zk,Bool.and_eq_true,zG,decide_eq_true_eq,zu,beq_iff_eq,jE]at hb;replace h:=ze h;obtain⟨l,hl,h⟩:=h;replace h:=zg h;obtain⟨_,h⟩:=h;have h:=jX h;cases h;obtain⟨g1,G⟩:=VV (ρ:=ρ) parts.toList X K (fun x hx v hv=>hρ x (by simpa[Op.operands] using hx) v hv);exact(zap hE hR hd hs U hb.1 hb.2 hl G _ (by rw[Array.toList_map];exact g1)).next
 case insert t m k x=>
  replace h:=ze h;obtain⟨m',hm,h⟩:=h;replace h:=ze h;obtain⟨k',Z,h⟩:=h;replace h:=ze h;obtain⟨x',hx,h⟩:=h;replace h:=ze h;obtain⟨H1,h1,h⟩:=h;cases h;obtain⟨B,A⟩:=hρ m (by simp[Op.operands]) _ hm;obtain⟨C,I⟩:=hρ k (by simp[Op.operands]) _ Z;obtain⟨c1,c2⟩:=hρ x (by simp[Op.operands]) _ hx;obtain⟨w',Q,O,N⟩:=YX hE hF hR h1 A I c2;simp only[B,C,c1];exact .skip Q O N
 case mapUpdate t m k x=>
  replace h:=ze h;obtain⟨m',hm,h⟩:=h;replace h:=ze h;obtain⟨k',Z,h⟩:=h;replace h:=ze h;obtain⟨x',hx,h⟩:=h;replace h:=ze h;obtain⟨H1,h1,h⟩:=h;cases h;obtain⟨B,A⟩:=hρ m (by simp[Op.operands]) _ hm;obtain⟨C,I⟩:=hρ k (by simp[Op.operands]) _ Z;obtain⟨c1,c2⟩:=hρ x (by simp[Op.operands]) _ hx;obtain⟨w',Q,O,N⟩:=YX hE hF hR h1 A I c2;simp only[B,C,c1];exact .skip Q O N
 case load t a=>
  replace h:=ze h;obtain⟨u,D,h⟩:=h;replace h:=ze h;obtain⟨p,hp,h⟩:=h;obtain rfl:=yz hp;replace h:=qQ h;obtain⟨h,j⟩:=h;subst j;obtain⟨g1,G⟩:=hρ a (by simp[Op.operands]) _ D;obtain⟨l1,l2⟩:=hR.loadVar hE h G;refine qh.next hR ⟨?_,l1⟩;simp only[g1,zc,Instr.loadAt,Instr.sureAddr,Sem.run_bind,Sem.run_pure,Result.andThen_ok,l2]
 case store t a x=>
  replace h:=ze h;obtain⟨u,D,h⟩:=h;replace h:=ze h;obtain⟨p,hp,h⟩:=h;obtain rfl:=yz hp;replace h:=ze h;obtain⟨y,J,h⟩:=h;replace h:=ze h;obtain⟨H1,h1,h⟩:=h;cases h;obtain⟨g1,G⟩:=hρ a (by simp[Op.operands]) _ D;obtain⟨k1,k2⟩:=hρ x (by simp[Op.operands]) _ J;obtain⟨w',Q,O,N⟩:=hR.storeVar hE h1 G k2;refine .skip ?_ O N;simp only[g1,k1,zc,Instr.storeAt,Instr.sureAddr,Sem.run_bind,Sem.run_pure,Result.andThen_ok,Q]
 case nilCheck x=>
  replace h:=ze h;obtain⟨u,D,h⟩:=h;replace h:=yI h;obtain⟨h1,h⟩:=h;cases h;obtain⟨g1,G⟩:=hρ x (by simp[Op.operands]) _ D;refine⟨β,w,.value (zc β v),?_,.inl rfl,G,hR,.refl _ _ _ hR.bnd⟩;simp only[g1];cases v<;>first|(cases h1;done)|simp[zc]
 case binOp op xt x y yt=>
  replace h:=ze h;obtain⟨a,ha,h⟩:=h;replace h:=ze h;obtain⟨b,hb,h⟩:=h;replace h:=qQ h;obtain⟨h,j⟩:=h;subst j;obtain⟨B,A⟩:=hρ x (by simp[Op.operands]) _ ha;obtain⟨C,I⟩:=hρ y (by simp[Op.operands]) _ hb;simp only[B,C];exact qh.next hR (zlF hE hF h A I)
 case unOp op xt x=>
  replace h:=ze h;obtain⟨a,ha,h⟩:=h;replace h:=qQ h;obtain⟨h,j⟩:=h;subst j;obtain⟨B,A⟩:=hρ x (by simp[Op.operands]) _ ha;simp only[B];rw[zl]at h;split at h
  .obtain⟨f,hf,e⟩:=qu h;obtain⟨_,u2,u3⟩:=zqL e (hF _ hf);exact qh.next hR ⟨u3 _,u2⟩
  .exact qh.next hR (Ux h)
 case convert s d x=>
  replace h:=ze h;obtain⟨a,ha,h⟩:=h;obtain⟨B,A⟩:=hρ x (by simp[Op.operands]) _ ha;simp only[B];rw[zl]at h;split at h
  .exact(zd0 hE hF hR h A).next
  .exact(zdR hE hF hR h A).next
 case makeInterface t x=>
  replace h:=ze h;obtain⟨d,hd,h⟩:=h;replace h:=yI h;obtain⟨hi,h⟩:=h;replace h:=ze h;obtain⟨a,ha,h⟩:=h;cases h;obtain⟨B,A⟩:=hρ x (by simp[Op.operands]) _ ha;refine qh.next hR ⟨?_,A⟩;simp only[B,Instr.makeInterface,Sem.run_bind,zr hE hd,Result.andThen_ok];cases d<;>first|(cases hi;done)|simp[zc]
 case makeFunc f fi ca=>
  replace h:=ze h;obtain⟨g,hg,h⟩:=h;replace h:=ze h;obtain⟨l,hl,h⟩:=h;replace h:=ze h;obtain⟨m,hm,h⟩:=h;cases h;obtain⟨B,A⟩:=zgp (ρ:=ρ) fi.toList l hl (fun x hx v hv=>hρ x (by simp only[Op.operands,Array.mem_append];exact .inl (by simpa using hx)) v hv);obtain⟨C,I⟩:=zgp (ρ:=ρ) ca.toList m hm (fun x hx v hv=>hρ x (by simp only[Op.operands,Array.mem_append];exact .inr (by simpa using hx)) v hv);have hf:f = .func g:=by cases f<;>cases hg;rfl
  subst hf;refine qh.next hR ⟨?_,A,I⟩;simp only[Instr.makeFunc,Sem.run_pure,zc];rw[<- B,<- C,<- Array.toList_map,<- Array.toList_map]
 case range t x=>
  replace h:=ze h;obtain⟨d,hd,h⟩:=h;replace h:=zg h;obtain⟨hds,h⟩:=h;obtain rfl:=js hds;replace h:=ze h;obtain⟨u,D,h⟩:=h;replace h:=ze h;obtain⟨s,hs,h⟩:=h;obtain rfl:=qG hs;simp only[zY]at h;cases h;obtain⟨B,A⟩:=hρ x (by simp[Op.operands]) _ D;simp only[B];exact(zhI hE hR hd A).next
 case next it isS=>
  replace h:=zg h;obtain⟨his,h⟩:=h;subst his;replace h:=ze h;obtain⟨u,D,h⟩:=h;replace h:=ze h;obtain⟨p,hp,h⟩:=h;obtain rfl:=yz hp;obtain⟨b,off⟩:=p
  cases off with
  | succ n=>rw[WL]at h;cases h
  | zero=>
   rw[U8]at h;replace h:=ze h;obtain⟨bl,hbl,h⟩:=h;replace h:=ze h;obtain⟨q,hq,h⟩:=h;have:bl = .siter q.1 q.2:=by cases bl<;>cases hq;rfl
   subst this;replace h:=zg h;obtain⟨h60,h⟩:=h;rw[zG,decide_eq_true_eq]at h60;obtain⟨B,A⟩:=hρ it (by simp[Op.operands]) _ D;simp only[B];exact(zkv hE hR hbl h60 A h ty).next
 case makeMap t r=>
  replace h:=ze h;obtain⟨_,h1,h⟩:=h;simp only[zY]at h;cases h;refine(zd7 hE hR fun y J=>?_).next
  cases r with
  | none=>cases J
  | some x=>
   rw[map_some]at J;cases J;rw[zd]at h1;replace h1:=ze h1;obtain⟨a,ha,h1⟩:=h1;replace h1:=ze h1;obtain⟨p,hp,h1⟩:=h1;obtain rfl:=jr hp;replace h1:=ze h1;obtain⟨d,hd,h1⟩:=h1;replace h1:=ze h1;obtain⟨q,hq,h1⟩:=h1;obtain rfl:=zbM hq;exact⟨⟨p.1,p.2,(hρ x (by simp[Op.operands]) _ ha).1⟩,q,hd⟩
 case makeSlice t l c=>
  replace h:=ze h;obtain⟨d,hd,h⟩:=h;replace h:=ze h;obtain⟨e,he,h⟩:=h;obtain rfl:=jJ he;replace h:=ze h;obtain⟨a,ha,h⟩:=h;replace h:=ze h;obtain⟨b,hb,h⟩:=h;replace h:=ze h;obtain⟨p,hp,h⟩:=h;obtain rfl:=jr hp;replace h:=zg h;obtain⟨hi,h⟩:=h;replace h:=jj h;obtain⟨n,hn,h⟩:=h;replace h:=ze h;obtain⟨q,hq,h⟩:=h;obtain rfl:=jr hq;replace h:=zg h;obtain⟨hj,h⟩:=h;replace h:=jj h;obtain⟨m,hm,h⟩:=h;obtain⟨B,A⟩:=hρ l (by simp[Op.operands]) _ ha;obtain⟨C,I⟩:=hρ c (by simp[Op.operands]) _ hb;simp only[B,C,zc,Zd hi,Zd hj,hn,hm];exact(zd6 hE hR hd h).next
 case slice t x lo hi mx=>
  replace h:=ze h;obtain⟨a,ha,h⟩:=h;replace h:=ze h;obtain⟨l,hl,h⟩:=h;replace h:=ze h;obtain⟨u,D,h⟩:=h;replace h:=ze h;obtain⟨m,hm,h⟩:=h;replace h:=qQ h;obtain⟨h,j⟩:=h;subst j;obtain⟨B,A⟩:=hρ x (by simp[Op.operands]) _ ha;have C:=zkT (ρ:=ρ) (β:=β) hl (fun y J v hv=>hρ y (by simp only[Op.operands,Array.mem_append];exact .inl (.inl (.inr (by simpa using J)))) v hv);have c1:=zkT (ρ:=ρ) (β:=β) D (fun y J v hv=>hρ y (by simp only[Op.operands,Array.mem_append];exact .inl (.inr (by simpa using J))) v hv);have d1:=zkT (ρ:=ρ) (β:=β) hm (fun y J v hv=>hρ y (by simp only[Op.operands,Array.mem_append];exact .inr (by simpa using J)) v hv);simp only[B,C,c1,d1];exact qh.next hR (zgz hE hF h A)
 case fieldAddr s x f=>
  replace h:=ze h;obtain⟨d,hd,h⟩:=h;replace h:=ze h;obtain⟨fs,L,h⟩:=h;replace h:=ze h;obtain⟨fl,M,h⟩:=h;replace h:=ze h;obtain⟨a,ha,h⟩:=h;replace h:=ze h;obtain⟨p,hp,h⟩:=h;replace h:=qQ h;obtain⟨h,j⟩:=h;subst j;obtain⟨B,A⟩:=hρ x (by simp[Op.operands]) _ ha;simp only[B];exact qh.next hR (zed hE hd L M hp h A)
 case field t x f=>
  replace h:=ze h;obtain⟨d,hd,h⟩:=h;replace h:=ze h;obtain⟨fs,L,h⟩:=h;replace h:=ze h;obtain⟨fl,M,h⟩:=h;replace h:=ze h;obtain⟨a,ha,h⟩:=h;replace h:=ze h;obtain⟨p,hp,h⟩:=h;replace h:=qQ h;obtain⟨h,j⟩:=h;subst j;obtain⟨B,A⟩:=hρ x (by simp[Op.operands]) _ ha;simp only[B];exact qh.next hR (zgM hE hd L M hp h A)
 case indexAddr t x i=>
  replace h:=ze h;obtain⟨a,ha,h⟩:=h;replace h:=ze h;obtain⟨b,hb,h⟩:=h;replace h:=qQ h;obtain⟨h,j⟩:=h;subst j;obtain⟨B,A⟩:=hρ x (by simp[Op.operands]) _ ha;obtain⟨C,I⟩:=hρ i (by simp[Op.operands]) _ hb;simp only[B,C];exact qh.next hR (zaw hE hF h A)
 case index t x i=>
  replace h:=ze h;obtain⟨a,ha,h⟩:=h;replace h:=ze h;obtain⟨b,hb,h⟩:=h;replace h:=qQ h;obtain⟨h,j⟩:=h;subst j;obtain⟨B,A⟩:=hρ x (by simp[Op.operands]) _ ha;obtain⟨C,I⟩:=hρ i (by simp[Op.operands]) _ hb;simp only[B,C];rw[zl]at h;split at h
  .exact qh.next hR (zb8 hE hF h)
  .exact qh.next hR (zgK hE h A)
 case lookup t x k ok=>
  replace h:=ze h;obtain⟨a,ha,h⟩:=h;replace h:=ze h;obtain⟨b,hb,h⟩:=h;replace h:=qQ h;obtain⟨h,j⟩:=h;subst j;obtain⟨B,A⟩:=hρ x (by simp[Op.operands]) _ ha;obtain⟨C,I⟩:=hρ k (by simp[Op.operands]) _ hb;simp only[B,C];exact qh.next hR (zeg hE hF hR h A I)
 case typeAssert x xt at_ ok=>
  replace h:=ze h;obtain⟨d,hd,h⟩:=h;replace h:=yI h;obtain⟨hi,h⟩:=h;replace h:=ze h;obtain⟨a,ha,h⟩:=h;replace h:=ze h;obtain⟨p,hp,h⟩:=h;obtain rfl:=zdL hp;replace h:=zg h;obtain⟨ht,h⟩:=h;rw[zu,beq_iff_eq]at ht;cases h;obtain⟨B,A⟩:=hρ x (by simp[Op.operands]) _ ha;have A:WF β p.2:=A;refine qh.next hR ⟨?_,?_⟩
  .simp only[B,Instr.typeAssert,Sem.run_bind,zr hE hd,Result.andThen_ok,zc,ht];cases d<;>first|(cases hi;done)|(cases ok<;>simp[Wc,zc,zf])
  .cases ok with
   | false=>exact A
   | true=>exact⟨A,trivial,trivial⟩
 case extract x i=>
  replace h:=ze h;obtain⟨a,ha,h⟩:=h;replace h:=ze h;obtain⟨l,hl,h⟩:=h;replace h:=qQ h;obtain⟨h,j⟩:=h;subst j;obtain⟨B,A⟩:=hρ x (by simp[Op.operands]) _ ha;simp only[B];exact qh.next hR (zdQ hl h A)
 case call c=>
  obtain⟨b,hb⟩:=hc c rfl;obtain⟨ce,as,ts⟩:=c;simp only at hb;subst hb;replace h:=ze h;obtain⟨vs,Y,h⟩:=h;obtain⟨g1,G⟩:=zgp (ρ:=ρ) as.toList vs Y (fun x hx v hv=>hρ x (by simpa[Op.operands,Call.operands] using hx) v hv);obtain⟨β',w',nx,s1,s2⟩:=zdS hE hR h G hF ty (as.map fun|.const _=>true|_=>false) (as.map ρ) (by rw[Array.toList_map];exact g1);refine⟨β',w',nx,?_,s2⟩;simp only[resolve,Sem.run_bind,Sem.run_pure,Result.andThen_ok,invoke];exact s1
 case ready=>cases h
 case waits=>cases h
 case sliceToArrayPointer=>cases h
 case makeChan=>cases h
 case mapEntry=>cases h
 case entryStore=>cases h
 case entry=>cases h
 case go=>cases h
 case defer=>cases h
 case panic=>cases h
 case send=>cases h
 case recv=>cases h
 case select=>cases h
end
end
end Go.AEv
