/- A verified evaluator of Go code, and its soundness (EvSc). Conditions: those of each theorem. -/
import Derived.Test.YtmlimgmmpjhifaaGreatDoorEvSb
import GoSem.Extern.Table
import Derived.Laws.BytesString
import Derived.Lib.UnsafeStr
import Derived.MapKept
set_option linter.all false
namespace Go.AEv
section
variable [Unk]
def Sim (P:Program) (β:Inj) (H:Heap) (w:World) (m:Sem Value) (v:zd) (H':Heap):Prop:=
 ∃ β' w',m.run P w = .ok (zh β' v) w'∧WF β' v∧Rel P β' H' w'∧Ext β H w β' H' w'
theorem zY.sim {P:Program}{β:Inj}{H:Heap}{w:World}{m:Sem Value}{v:zd} (h:zY P β w m v) (hR:Rel P β H w):Sim P β H w m v H:=
 ⟨β,w,h.1,h.2,hR,.refl _ _ _ hR.bnd⟩
theorem kq.ofList {P:Program}{β:Inj}{t:TypeId}{l:List zd} (hl:WFs β l) (extra:List Value) (e:Nat) (he:e*jC P t≤extra.length) (fz:Nat×Nat)
  (hf:∀ i,i<l.length+extra.length→¬ (fz.1≤i∧i<fz.2)) :
  kq P β t (qT l 0) (Tr.ofList l) 0 e (zq β l++extra).toArray fz where
 size:=by simp [zK];omega
 cell:=fun i v h=>by
  rw [Tr.qV]at h
  refine ⟨(jb _ _).1 hl v (List.mem_of_getElem? h),?_⟩
  have hlt:=(List.getElem?_eq_some_iff.1 h).1
  rw [Nat.zero_add,List.getElem?_toArray,List.getElem?_append_left (by rw [zK];simpa using hlt),zK,List.getElem?_map,h];rfl
 thaw:=fun i hi=>hf i (by simpa [zK] using hi)
 al:=Nat.dvd_zero _
theorem Rel.newRow {P:Program}{β:Inj}{H:Heap}{w:World} (hR:Rel P β H w) {t:TypeId}{n:Nat}{c:Tr zd}{arr:Array Value}{e:Nat}{fz:Nat×Nat}
  (h:kq P β t n c 0 e arr fz) :
  Rel P (β.put H.next (w.heap.size,0,e)) ⟨H.blk.set H.next (.cells t n c),H.next+1⟩ (push w (.cells arr t fz)) ∧
  Ext β H w (β.put H.next (w.heap.size,0,e)) ⟨H.blk.set H.next (.cells t n c),H.next+1⟩ (push w (.cells arr t fz)):=
 hR.add _ _ e ⟨arr,fz,j6 _ _,h.mono (Inj.j4 (hR.fresh (Nat.le_refl _)))⟩
theorem ka (β:Inj) (m c e:Nat):(β.put m (c,0,e)).addr m 0=⟨c,0,none⟩:=by simp [Inj.addr,Inj.blk,Inj.sh,Inj.zM]
theorem Xc (β:Inj) (m c s e:Nat):(β.put m (c,s,e)).ext m=e:=by simp [Inj.ext,Inj.zM]
theorem Rel.Vm {P:Program}{β:Inj}{H:Heap}{w:World} (hR:Rel P β H w) (t:TypeId) {l:List zd} (hl:WFs β l) :
  Rel P (β.put H.next (w.heap.size,0,0)) (Heap.new H t l) (push w (.cells (zq β l).toArray t)) ∧
  Ext β H w (β.put H.next (w.heap.size,0,0)) (Heap.new H t l) (push w (.cells (zq β l).toArray t)):=by
 have:=hR.newRow (t:=t) (e:=0) (fz:=(0,0)) (kq.ofList hl [] 0 (by simp) (0,0) (by simp))
 simp only [List.append_nil]at this
 exact this
theorem jt {H:Heap}{t:TypeId}{l:List zd}{f:Nat→zd}{r:zd×Heap} (h:fV H t l f=some r):r=(f H.next,Heap.new H t l):=by
 cases h;rfl
section
variable {E:Env} (hE:jU E)
include hE
theorem eJ {β:Inj}{H:Heap}{w:World} (hR:Rel E.P β H w) {t:TypeId}{z:zd} (hz:E.zero t=some z) :
  Sim E.P β H w (Instr.alloc t true (.tuple #[])) (.ptr H.next 0) (Heap.new H t (zP z)):=by
 obtain ⟨g1,g2⟩:=jL hE hz β w
 obtain ⟨h1,h2⟩:=hR.Vm t (jm g2)
 refine ⟨_,_,?_,by simp [WF,Inj.zM],h1,h2⟩
 unfold Instr.alloc
 simp [g1,newVar,newRow,qM,zh,ka]
 rfl
omit hE in
theorem og {P:Program}{β:Inj}{H:Heap}{w:World} (hR:Rel P β H w) (t:TypeId) {v:zd} (hv:WF β v) :
  Sim P β H w (Instr.box t (zh β v)) (.ptr H.next 0) (Heap.new H t (zP v)):=by
 obtain ⟨h1,h2⟩:=hR.Vm t (jm hv)
 refine ⟨_,_,?_,by simp [WF,Inj.zM],h1,h2⟩
 unfold Instr.box
 simp [newVar,newRow,qM,zh,ka]
 rfl
theorem run_places {w:World}:∀ (fs:List Field),Xo E fs=true →
  ∃ pl:List (Nat×Nat),(fs.mapM fun f=>(do pure (f.offset,← sizeOf f.type):Sem (Nat×Nat))).run E.P w = .ok pl w∧∀ i:Nat,pl[i]? = QM E fs i:=by
 intro fs
 induction fs with
 | nil=>intro _;exact ⟨[],by simp,fun i=>by simp [QM]⟩
 | cons f fs ih=>
  intro h
  have e:Xo E (f::fs)=zt (E.size f.type) false fun _=>Xo E fs:=rfl
  rw [e]at h
  cases hs:E.size f.type with
  | none=>rw [hs]at h;cases h
  | some s=>
   rw [hs,zg]at h
   obtain ⟨pl,h1,h2⟩:=ih h
   refine ⟨(f.offset,s)::pl,?_,fun i=>?_⟩
   ·simp only [List.mapM_cons,Sem.run_bind,qk hE hs,Result.andThen_ok,Sem.run_pure,h1]
   ·cases i with
    | zero=>simp [QM,hs]
    | succ i=>rw [List.getElem?_cons_succ,h2 i];simp [QM]
theorem eD {β:Inj}{w:World}{t:TypeId}{z:zd}{d:TypeDesc}{ps:List (Nat×zd)}{l:List zd} (hz:E.zero t=some z) (hd:E.desc t=some d)
  (h:hZ E d (zP z) ps=some l) (hp:∀ p∈ps,WF β p.2) (parts:Array (Nat×Value)) (hparts:parts.toList=ps.map fun p=>(p.1,zh β p.2)) :
  zY E.P β w (Instr.build t parts) (.agg l):=by
 obtain ⟨g1,g2⟩:=jL hE hz β w
 have hw:=jm g2
 unfold hZ at h
 unfold zY Instr.build
 rw [Sem.run_bind,g1,Result.andThen_ok,Sem.run_bind,zr hE hd,Result.andThen_ok,qM]
 cases h1:k8 d with
 | some fs=>
  obtain ⟨fs',rfl,rfl⟩:=QP h1
  rw [h1,zg,jz]at h
  replace h:=zl h
  obtain ⟨h2,h⟩:=h
  obtain ⟨f1,f2,f3⟩:=QK (β:=β) (QM E fs'.toList) ps (zP z) l h hp hw
  obtain ⟨pl,p1,p2⟩:=run_places hE (w:=w) fs'.toList h2
  refine ⟨?_,f2⟩
  have e:(fun i=>pl.toArray[i]?)=QM E fs'.toList:=funext fun i=>by simpa using p2 i
  have p1':(fs'.mapM fun f=>(do pure (f.offset,← sizeOf f.type):Sem (Nat×Nat))).run E.P w = .ok pl.toArray w:=by
   rw [Array.mapM_eq_mapM_toList]
   simp only [Sem.run_map,p1,Result.andThen_ok]
  simp only [Sem.run_bind,p1',Result.andThen_ok,hparts,e,f1]
  simp [zh]
 | none=>
  rw [h1,zm]at h
  replace h:=zf h
  obtain ⟨q,hq,h⟩:=h
  have:=yu hq
  subst this
  replace h:=zf h
  obtain ⟨s,hs,h⟩:=h
  rw [jz]at h
  obtain ⟨f1,f2,f3⟩:=QK (β:=β) (Yr s) ps (zP z) l h hp hw
  refine ⟨?_,f2⟩
  have f1':Instr.fill (fun i=>some (i*s,s)) (zq β (zP z)).toArray (ps.map fun p=>(p.1,zh β p.2))=some (zq β l).toArray:=f1
  simp only [Sem.run_bind,qk hE hs,Result.andThen_ok,hparts,f1']
  simp [zh]
theorem Wb {β:Inj}{H:Heap}{w:World} (hR:Rel E.P β H w) {t e:TypeId}{len s:Nat}{z:zd}{ps:List (Nat×zd)}{l:List zd} (hd:E.desc t=some (.slice e)) (hs:E.size e=some s)
  (hz:E.zero e=some z) (hb:len*s≤16777216) (hzs:(zP z).length=s) (h:aa (Yr s) (len*s) ps (yY (zP z) len)=some l) (hp:∀ p∈ps,WF β p.2)
  (parts:Array (Nat×Value)) (hparts:parts.toList=ps.map fun p=>(p.1,zh β p.2)) :
  Sim E.P β H w (Instr.buildSlice t len parts) (.slice H.next 0 len len true) (Heap.new H e l):=by
 obtain ⟨g1,g2⟩:=jL hE hz β w
 have hw:=XO (jm g2) len
 have hlen:=QD (zP z) s hzs len
 rw [← hlen]at h
 obtain ⟨f1,f2,f3⟩:=QK (β:=β) (Yr s) ps _ l h hp hw
 obtain ⟨h1,h2⟩:=hR.Vm e f2
 refine ⟨_,_,?_,⟨by simp [Inj.zM],Nat.le_refl _⟩,h1,h2⟩
 have f1':Instr.fill (fun i=>some (i*s,s)) (zq β (yY (zP z) len)).toArray (ps.map fun p=>(p.1,zh β p.2))=some (zq β l).toArray:=f1
 unfold Instr.buildSlice
 simp only [Sem.run_bind,zr hE hd,Result.andThen_ok,qk hE hs]
 rw [if_neg (by omega)]
 by_cases h0:len*s=0
 ·have e0:=Zi (β:=β) (zP z) s len hzs #[] (fun h=>absurd h0 h)
  simp only [h0,if_true,Sem.run_bind,Sem.run_pure,Result.andThen_ok]at e0 ⊢
  rw [e0,hparts]
  simp only [f1']
  simp [newRow,zh,ka]
  rfl
 ·have e0:=Zi (β:=β) (zP z) s len hzs (zq β (zP z)).toArray (fun _=>rfl)
  simp only [h0,if_false,Sem.run_bind,g1,Sem.run_pure,Result.andThen_ok,qM]
  rw [e0,hparts]
  simp only [f1']
  simp [newRow,zh,ka]
  rfl
omit hE in
theorem cH (n:Nat) (h:n<9223372036854775808):IntKind.i64.wrap (n:Int)=n:=by
 rw [← yK]
 have e:Jd .i64 (n:Int)=n:=Nat.mod_eq_of_lt (show n<18446744073709551616 by omega)
 unfold Jx back
 rw [e,zu,qo,if_pos]
 ·rfl
 ·exact decide_eq_true (show n<9223372036854775808 from h)
theorem Uh {β:Inj}{H H':Heap}{w:World} (hR:Rel E.P β H w) {t e:TypeId}{l c:Nat}{v:zd} (hd:E.desc t=some (.slice e)) (h:mkSlice E H e l c=some (v,H')) :
  Sim E.P β H w (Instr.makeSlice t (.int .i64 l) (.int .i64 c)) v H':=by
 replace h:=zf h
 obtain ⟨i,hi,h⟩:=h
 replace h:=zf h
 obtain ⟨z,hz,h⟩:=h
 replace h:=zl h
 obtain ⟨hc,h⟩:=h
 simp only [z7]at h
 have h:=jt h
 cases h
 simp only [zB,Bool.and_eq_true,zN,zG,decide_eq_true_eq,beq_iff_eq,jz]at hc
 obtain ⟨c1,c2,c3,c4⟩:=hc
 have c1:c*i.bytes≤1000000000:=c1
 obtain ⟨g1,g2⟩:=jL hE hz β w
 have hw:=XO (jm g2) c
 obtain ⟨h1,h2⟩:=hR.Vm e hw
 refine ⟨_,_,?_,⟨by simp [Inj.zM],c2⟩,h1,h2⟩
 have hsz:E.size e=some i.size:=by unfold Env.size;rw [hi];rfl
 have wl:IntKind.i64.wrap (l:Int)=l:=cH l (by omega)
 have wc:IntKind.i64.wrap (c:Int)=c:=cH c (by omega)
 unfold Instr.makeSlice
 simp only [Sem.run_bind,zr hE hd,Result.andThen_ok,Go.asInt,asIntOf,Sem.run_pure,j3 hE hi,wl,wc,Int.toNat_natCast]
 have hm:(i.bytes:Int)*(c:Int)=((c*i.bytes:Nat):Int):=by rw [Nat.mul_comm];simp
 have hcond:¬ ((decide ((c:Int)<0)||decide ((i.bytes:Int)*(c:Int) > 2 ^ 48)||decide ((l:Int)<0)||decide ((l:Int) > (c:Int)))=true):=by
  rw [hm]
  simp only [Bool.or_eq_true,decide_eq_true_eq,not_or]
  omega
 rw [if_neg hcond]
 simp only [Sem.run_bind]
 simp only [run_askRoom,Result.andThen_ok,qk hE hsz]
 by_cases h0:c*i.size=0
 ·have e0:=Zi (β:=β) (zP z) i.size c c3 #[] (fun h=>absurd h0 h)
  simp only [h0,if_true,Sem.run_bind,Sem.run_pure,Result.andThen_ok]at e0 ⊢
  rw [e0]
  simp [newRow,zh,ka]
  rfl
 ·have e0:=Zi (β:=β) (zP z) i.size c c3 (zq β (zP z)).toArray (fun _=>rfl)
  simp only [h0,if_false,Sem.run_bind,g1,Sem.run_pure,Result.andThen_ok,qM]
  rw [e0]
  simp [newRow,zh,ka]
  rfl
end
end
section
variable [Unk]
theorem kN (w:World):Alike w { w with drawn:=w.drawn+1 }:=⟨rfl,rfl,rfl,rfl⟩
theorem WW (p:zd→Option Nat):∀ (l:List zd) (acc:List Nat),Xg p l acc=bnd (List.rec (motive:=fun _=>Option (List Nat)) (some []) (fun v _ ih=>bnd (p v) fun b=>bnd ih fun m=>some (b::m)) l) fun m=>some (m.reverse++acc)
 | [],acc=>rfl
 | v::l,acc=>by
  have e:Xg p (v::l) acc=bnd (p v) fun b=>Xg p l (b::acc):=rfl
  rw [e]
  show _=bnd (bnd (p v) fun b=>bnd (List.rec (motive:=fun _=>Option (List Nat)) (some []) (fun v _ ih=>bnd (p v) fun b=>bnd ih fun m=>some (b::m)) l) fun m=>some (b::m)) fun m=>some (m.reverse++acc)
  cases p v with
  | none=>rfl
  | some b=>
   rw [qi,qi,WW p l (b::acc)]
   cases (List.rec (motive:=fun _=>Option (List Nat)) (some []) (fun v _ ih=>bnd (p v) fun b=>bnd ih fun m=>some (b::m)) l) with
   | none=>rfl
   | some m=>simp [qi]
theorem iY:∀ (l acc:List Nat),tW l acc=l.reverse++acc
 | [],_=>rfl
 | a::l,acc=>by
  have e:tW (a::l) acc=tW l (a::acc):=rfl
  rw [e,iY l];simp
theorem WY (p:zd→Option Nat) (l:List zd):Qp p l=List.rec (motive:=fun _=>Option (List Nat)) (some []) (fun v _ ih=>bnd (p v) fun b=>bnd ih fun m=>some (b::m)) l:=by
 unfold Qp
 rw [WW]
 cases (List.rec (motive:=fun _=>Option (List Nat)) (some []) (fun v _ ih=>bnd (p v) fun b=>bnd ih fun m=>some (b::m)) l) with
 | none=>rfl
 | some m=>simp [qi,iY]
theorem Qf (p:zd→Option Nat) (v:zd) (l:List zd):Qp p (v::l)=bnd (p v) fun b=>bnd (Qp p l) fun m=>some (b::m):=by
 rw [WY,WY]
theorem oH:∀ (t:Tr zd) (n:Nat),tight t n=true→(∀ i,i<n→∃ v,t.get i=some v∧kn v=true)∧∀ i,n≤i→t.get i=none:=by
 intro t
 induction t with
 | nil=>
  intro n h
  have h:Nat.beq n 0=true:=h
  rw [zG,beq_iff_eq]at h
  subst h
  exact ⟨fun i hi=>by omega,fun i _=>Tr.get_nil i⟩
 | node l v r ihl ihr=>
  intro n h
  cases n with
  | zero=>cases h
  | succ m=>
   have h:zt v false (fun a=>ifB (kn a) (ifB (tight l (Nat.div (Nat.succ m) 2)) (tight r (Nat.div m 2)) false) false)=true:=h
   cases v with
   | none=>cases h
   | some a=>
    rw [zg,zu]at h
    split at h
    ·rename_i ha
     rw [zu]at h
     split at h
     ·rename_i hl
      obtain ⟨l1,l2⟩:=ihl _ hl
      obtain ⟨r1,r2⟩:=ihr _ h
      have e1:Nat.div (Nat.succ m) 2=(m+1) / 2:=rfl
      have e2:Nat.div m 2=m / 2:=rfl
      rw [e1]at l1 l2
      rw [e2]at r1 r2
      have parts:∀ i:Nat,i=0∨(∃ j,i=2*j+1)∨∃ j,i=2*j+2:=fun i=>by
       rcases Nat.eq_zero_or_pos i with h | h
       ·exact .inl h
       ·rcases Nat.mod_two_eq_zero_or_one i with h2 | h2
        ·exact .inr (.inr ⟨i / 2-1,by omega⟩)
        ·exact .inr (.inl ⟨i / 2,by omega⟩)
      refine ⟨fun i hi=>?_,fun i hi=>?_⟩
      ·rcases parts i with rfl | ⟨j,rfl⟩ | ⟨j,rfl⟩
       ·exact ⟨a,yC _ _ _,ha⟩
       ·rw [ki];exact l1 j (by omega)
       ·rw [jQ];exact r1 j (by omega)
      ·rcases parts i with rfl | ⟨j,rfl⟩ | ⟨j,rfl⟩
       ·omega
       ·rw [ki];exact l2 j (by omega)
       ·rw [jQ];exact r2 j (by omega)
     ·cases h
    ·cases h
theorem Ku {α:Type}:∀ (n:Nat) (t:Tr α) (o:Nat),(∀ i,i<n→∃ v,t.get (o+i)=some v)→∃ l,Tr.jF n t o=some l
 | 0,_,_,_=>⟨[],rfl⟩
 | n+1,t,o,h=>by
  obtain ⟨v,hv⟩:=h 0 (by omega)
  obtain ⟨l,hl⟩:=Ku n t (o+1) fun i hi=>by
   obtain ⟨u,hu⟩:=h (i+1) (by omega)
   exact ⟨u,by rw [← hu];congr 1;omega⟩
  refine ⟨v::l,?_⟩
  show (bnd (t.get o) fun a=>bnd (Tr.jF n t (o+1)) fun l=>some (a::l))=_
  rw [show t.get o=some v from hv,hl]
  rfl
theorem U8 {α:Type} (n:Nat) (t:Tr α) (o:Nat) (h:∀ i,i<n→∃ v,t.get (o+i)=some v):∃ l,Tr.bC n t o=some l:=by
 obtain ⟨l,hl⟩:=Ku n t o h
 exact ⟨l,by rw [Tr.lO];exact hl⟩
theorem iy {H H' : Heap} {e : TypeId} {sz : Nat} {s : Sl} {n : Nat} {new : List zd} {v : zd} (h : ck H e sz s n new = some (v, H')) :
    ∃ B k c c', H' = ⟨Tr.set B H.next (.cells e k c'), H.next + 1⟩ ∧ yd H e sz s n new = some (v, ⟨Tr.set B H.next (.cells e k c), H.next + 1⟩) ∧ ∀ i, c'.get i = c.get i := by
  unfold ck at h
  obtain ⟨r, hr, h⟩ := zf h
  rw [z7, zu] at h
  split at h
  · rename_i hf
    rw [zB, Bool.and_eq_true, zG, beq_iff_eq] at hf
    obtain ⟨ho, hf⟩ := hf
    obtain ⟨f1, f2⟩ := oH _ _ hf
    obtain ⟨old, hold⟩ := U8 (Nat.mul s.len sz) r.c s.off fun i hi => by
      obtain ⟨u, hu, _⟩ := f1 i hi
      exact ⟨u, by rw [ho, Nat.zero_add]; exact hu⟩
    obtain ⟨g1, g2⟩ := Tr.kh _ _ _ _ hold
    have hoks : ZF kn old = true := by
      rw [Ze, List.all_eq_true]
      intro u hu
      obtain ⟨i, hi, rfl⟩ := List.getElem_of_mem hu
      obtain ⟨u', hu', ok⟩ := f1 i (by rw [← g1]; exact hi)
      have := g2 i (by rw [← g1]; exact hi)
      rw [ho, Nat.zero_add, hu', List.getElem?_eq_getElem hi] at this
      cases this
      exact ok
    have key : ∀ (H2 : Heap) (r2 : zd × Heap), VE H2 e (Nat.add s.len n) (Nat.mul s.len sz) r.c new = some r2 →
        ∃ c', r2 = (.slice H2.next 0 (s.len + n) (s.len + n) false, ⟨Tr.set H2.blk H2.next (.cells e (old.length + new.length) c'), H2.next + 1⟩) ∧
          yQ H2 e (Nat.add s.len n) (jv old new) = some (.slice H2.next 0 (s.len + n) (s.len + n) false, ⟨Tr.set H2.blk H2.next (.cells e (old.length + new.length) (Tr.ofList (old ++ new))), H2.next + 1⟩) ∧
          ∀ i, c'.get i = (Tr.ofList (old ++ new)).get i := by
      intro H2 r2 h2
      unfold VE at h2
      obtain ⟨h3, h2⟩ := zl h2
      simp only [z7] at h2
      cases h2
      refine ⟨Tr.mT new r.c (Nat.mul s.len sz), ?_, ?_, fun i => ?_⟩
      · rw [jz, g1]; rfl
      · unfold yQ
        rw [qy]
        have h4 : ZF kn (old ++ new) = true := by
          rw [Ze, List.all_eq_true] at h3 hoks ⊢
          intro u hu
          rcases List.mem_append.1 hu with hu | hu
          · exact hoks u hu
          · exact h3 u hu
        rw [h4, qI]
        simp only [z7]
        show some (zd.slice H2.next 0 (s.len + n) (s.len + n) false, Heap.new ⟨H2.blk, H2.next⟩ e (old ++ new)) = _
        unfold Heap.new
        rw [jz, List.length_append]
      · rw [Tr.Kv, Tr.qV]
        have g1' : old.length = Nat.mul s.len sz := g1
        by_cases hi : Nat.mul s.len sz ≤ i ∧ i < Nat.mul s.len sz + new.length
        · rw [if_pos hi, List.getElem?_append_right (by omega), g1']
        · rw [if_neg hi]
          rcases Nat.lt_or_ge i (Nat.mul s.len sz) with h5 | h5
          · rw [List.getElem?_append_left (by omega)]
            have := g2 i h5
            rw [ho, Nat.zero_add] at this
            exact this
          · rw [f2 i h5, List.getElem?_eq_none (by rw [List.length_append]; omega)]
    have h0 : yd H e sz s n new = ifB s.ex (yQ H e (Nat.add s.len n) (jv old new))
      (ifB (zH (Nat.ble 100 s.b) (zH (Nat.beq r.t e) (zH (Nat.beq (Nat.mod s.off sz) 0) (Nat.beq (Nat.add s.off (Nat.mul s.cap sz)) r.n)))) (yQ ⟨H.blk.del s.b, H.next⟩ e (Nat.add s.len n) (jv old new)) none) := by
      unfold yd
      rw [hr, qi, hold, qi]
    rw [h0]
    rw [zu] at h
    rw [zu]
    split at h
    · rename_i hx
      obtain ⟨c', k1, k2, k3⟩ := key _ _ h
      cases k1
      rw [if_pos hx]
      exact ⟨H.blk, _, _, c', rfl, k2, k3⟩
    · rename_i hx
      rw [if_neg hx]
      obtain ⟨hb, h⟩ := zl h
      obtain ⟨c', k1, k2, k3⟩ := key _ _ h
      cases k1
      rw [hb, qI]
      exact ⟨H.blk.del s.b, _, _, c', rfl, k2, k3⟩
  · have h1 := h
    unfold yd at h
    rw [hr, qi] at h
    obtain ⟨old, hold, h⟩ := zf h
    have key : ∀ (H2 : Heap), H2.next = H.next → yQ H2 e (Nat.add s.len n) (jv old new) = some (v, H') → ∃ B k c c', H' = ⟨Tr.set B H.next (.cells e k c'), H.next + 1⟩ ∧ yd H e sz s n new = some (v, ⟨Tr.set B H.next (.cells e k c), H.next + 1⟩) ∧ ∀ i, c'.get i = c.get i := by
      intro H2 hn h2
      rw [← hn]
      unfold yQ at h2
      obtain ⟨_, h2⟩ := zl h2
      simp only [z7] at h2
      have h2 := jt h2
      cases h2
      exact ⟨H2.blk, _, _, _, rfl, h1, fun _ => rfl⟩
    rw [zu] at h
    split at h
    · exact key H rfl h
    · obtain ⟨_, h⟩ := zl h
      exact key ⟨H.blk.del s.b, H.next⟩ rfl h
section
variable {E:Env} (hE:jU E)
include hE
omit hE in
theorem Xw (s:List Nat) (hs:∀ b∈s,b<256) (β:Inj):((str s).data.map fun b=>Value.int .u8 b.toNat)=(zq β (mapA u8 s)).toArray:=by
 apply Array.toList_inj.1
 simp only [Array.toList_map,YH,List.map_map,zK,jA]
 apply List.map_congr_left
 intro b hb
 have:=hs b hb
 simp [u8,zh]
 omega
omit hE in
theorem tu (β:Inj) (s:List Nat):WFs β (mapA u8 s):=by
 rw [jb,jA]
 intro v hv
 obtain ⟨b,_,rfl⟩:=List.mem_map.1 hv
 trivial
theorem Xz {P:Program}{β:Inj}{H:Heap}{w:World} (hR:Rel P β H w) {sz:Nat}{x:zd}{p:Nat×List zd} (h:kr H sz x=some p) (hx:WF β x) :
  (Builtin.lenOf (zh β x)).run P w = .ok p.1 w∧(Builtin.firstCells sz p.1 (zh β x)).run P w = .ok (zq β p.2).toArray w∧WFs β p.2 ∧
  (∀ m,m≤p.1→p.2.length=p.1*sz→(Builtin.firstCells sz m (zh β x)).run P w = .ok (zq β (p.2.take (m*sz))).toArray w):=by
 have _:=hE
 unfold kr at h
 cases h1:jN x with
 | some s=>
  have:=jo h1
  subst this
  rw [h1,zg]at h
  replace h:=zf h
  obtain ⟨l,hl,h⟩:=h
  cases h
  obtain ⟨g1,g2,g3⟩:=hR.jM hl hx.1
  refine ⟨by simp [Builtin.lenOf,zh],?_,g2,fun m hm hlen=>?_⟩
  ·have g3:(loadCells (β.addr s.b s.off) (s.len*sz)).run P w = .ok (zq β l).toArray w:=g3
   simp [Builtin.firstCells,zh,g3]
  ·
   replace hl:=zf hl
   obtain ⟨r,hr,hl⟩:=hl
   obtain ⟨k1,k2⟩:=Tr.kh _ _ _ _ hl
   have hms:m*sz≤l.length:=by rw [hlen];exact Nat.mul_le_mul_right _ hm
   have:=run_loadCells_list (P:=P) (w:=w) (β.addr s.b s.off) (zq β (l.take (m*sz))) (by
    intro j v hj
    rw [zK,List.getElem?_map,List.getElem?_take]at hj
    split at hj
    ·rename_i hlt
     cases hv:l[j]? with
     | none=>rw [hv]at hj;cases hj
     | some u=>
      rw [hv]at hj;cases hj
      rw [Inj.jf]
      refine (hR.cell hr hx.1 ?_).1
      rw [k2 j (by rw [← k1];omega)];exact hv
    ·cases hj)
   rw [zK,List.length_map,List.length_take,Nat.min_eq_left hms,← zK]at this
   simp [Builtin.firstCells,zh,this]
 | none=>
  rw [h1,zm]at h
  cases h2:qR x with
  | some s=>
   have:=qw h2
   subst this
   rw [h2,zg,jz]at h
   cases h
   refine ⟨by simp [Builtin.lenOf,zh,qK],?_,tu β s,fun m hm hlen=>?_⟩
   ·have e:(str s).extract 0 s.length=str s:=by
     apply ByteArray.ext
     apply Array.toList_inj.1
     simp only [str,ByteArray.data_extract,Array.toList_extract,List.extract_eq_take_drop,List.drop_zero,Nat.sub_zero]
     exact List.take_of_length_le (by simp)
    simp only [Builtin.firstCells,zh,Sem.run_pure,e,Xw s hx β]
   ·have hs1:s.length=s.length*sz:=by simpa using hlen
    have e:(str s).extract 0 m=str (s.take m):=by
     apply ByteArray.ext
     apply Array.toList_inj.1
     simp [str,List.extract_eq_take_drop]
    have e2:(mapA u8 s).take (m*sz)=mapA u8 (s.take m):=by
     simp only [jA,List.map_take]
     by_cases h0:s.length=0
     ·have:s=[]:=List.length_eq_zero_iff.1 h0
      simp [this]
     ·have:sz=1:=by
       rcases Nat.lt_trichotomy sz 1 with h | h | h
       ·have:sz=0:=by omega
        subst this;omega
       ·exact h
       ·have:s.length*1<s.length*sz:=Nat.mul_lt_mul_of_pos_left h (by omega)
        omega
      rw [this,Nat.mul_one]
    simp only [Builtin.firstCells,zh,Sem.run_pure,e,e2]
    rw [Xw (s.take m) (fun b hb=>hx b (List.mem_of_mem_take hb)) β]
  | none=>
   rw [h2,zm]at h
   replace h:=zl h
   obtain ⟨h3,h⟩:=h
   have:=je h3
   subst this
   cases h
   exact ⟨by simp [Builtin.lenOf,zh],by simp [Builtin.firstCells,zh,zq],trivial,fun m hm _=>by simp [Builtin.firstCells,zh,zq]⟩
omit hE in
theorem nM (n:Nat):∀ r c,c≤2*n+1000→c<n∨n≤c→Builtin.growBy n r c≤2*n+1000:=by
 intro r
 induction r with
 | zero=>intro c h _;exact h
 | succ r ih=>
  intro c h _
  simp only [Builtin.growBy]
  split
  ·exact h
  ·exact ih _ (by omega) (by omega)
omit hE in
theorem fT (n c:Nat) (h:c<n):Builtin.nextslicecap n c≤2*n+1000:=by
 unfold Builtin.nextslicecap
 split
 ·omega
 ·split
  ·omega
  ·exact nM n _ _ (by omega) (by omega)
omit hE in
theorem gK (need old:Nat) (e:TypeId) (t:Nat):need≤(Question.appendCap need old e).cut t:=by
 simp [Question.cut]
def VH (E:Env) (β:Inj) (w:World) (e:TypeId) (i:TypeInfo) (xd:TypeDesc) (x:zd) (n:Nat) (new:List zd):Prop:=
 (isInt xd=false∧(Builtin.lenOf (zh β x)).run E.P w = .ok n w∧∀ w',Alike w w'→(Builtin.firstCells i.size n (zh β x)).run E.P w' = .ok (zq β new).toArray w') ∨
 (isInt xd=true∧zh β x = .int .i64 n∧n*i.bytes≤1000000000∧n≤1000000000∧∃ z,E.zero e=some z∧(zP z).length=i.size∧new=yY (zP z) n)
theorem eV (β:Inj) (z:zd) (n:Nat):Builtin.zeroCells (zh β z).cells n=(zq β (yY (zP z) n)).toArray:=by
 have _:=hE
 unfold Builtin.zeroCells
 have:=Zi (β:=β) (zP z) (zP z).length n rfl (zh β z).cells (fun _=>qM β z)
 rw [show (zh β z).cells.size=(zP z).length by rw [qM,zK];simp]
 rw [show (zh β z).cells.size=(zP z).length by rw [qM,zK];simp]at this
 exact this
theorem UN {β:Inj}{w:World}{e:TypeId}{z:zd}{s n:Nat} (hz:E.zero e=some z) (hzs:(zP z).length=s) :
  (if n*s=0 then (pure #[]:Sem (Array Value)) else do pure (Builtin.zeroCells (← zeroValue e).cells n)).run E.P w = .ok (zq β (yY (zP z) n)).toArray w:=by
 obtain ⟨z1,_⟩:=jL hE hz β w
 split
 ·rename_i h
  have:yY (zP z) n=[]:=List.length_eq_zero_iff.1 (by rw [QD _ s hzs];exact h)
  rw [this];simp [zq]
 ·simp only [Sem.run_bind,z1,Result.andThen_ok,Sem.run_pure,eV hE β z]
omit hE in
theorem wrap_i64 {n:Nat} (h:n≤1000000000):IntKind.i64.wrap (n:Int)=n:=by
 unfold IntKind.wrap IntKind.signed IntKind.bits
 simp
 omega
omit hE in
theorem az (P:Program) (w:World) (k:IntKind) (n:Int):(Go.asInt (.int k n)).run P w = .ok n w:=by
 unfold Go.asInt Go.asIntOf
 simp
omit hE in
theorem alike_refl (w:World):Alike w w:=⟨rfl,rfl,rfl,rfl⟩
theorem run_append_grow {β : Inj} {w : World} {sT xT : TypeId} {e : TypeId} {xd : TypeDesc} {i : TypeInfo} {z : zd} {base : Option Addr} {sLen sCap n : Nat} {x : zd} {old new : List zd}
    (hs : E.desc sT = some (.slice e)) (hxd : E.desc xT = some xd) (hi : E.types.get e = some i) (hz : E.zero e = some z) (hzs : (zP z).length = i.size)
    (hroom : (sLen + n) * i.bytes ≤ 1000000000) (hroom2 : sLen + n ≤ 1000000000) (hmode : VH E β w e i xd x n new)
    (hold : ∀ w', Alike w w' → (Builtin.firstCells i.size sLen (.slice base sLen sCap)).run E.P w' = .ok (zq β old).toArray w')
    (hcap : sCap < sLen + n) (ty : TypeId) :
    ∃ k extra, extra.length = k * i.size ∧ (Builtin.append_ #[sT, xT] ty #[.slice base sLen sCap, zh β x]).run E.P w =
      .ok (.slice (some ⟨w.heap.size, 0, none⟩) (sLen + n) (sLen + n + k)) (push { w with drawn := w.drawn + 1 } (.cells (zq β (old ++ new) ++ extra).toArray e)) := by
  have hsz : E.size e = some i.size := by unfold Env.size; rw [hi]; rfl
  have hq := gK (sLen + n) sCap e (w.tape w.drawn (.appendCap (sLen + n) sCap e))
  generalize hcut : (Question.appendCap (sLen + n) sCap e).cut (w.tape w.drawn (.appendCap (sLen + n) sCap e)) = newCap at hq
  refine ⟨newCap - (sLen + n), (Builtin.zeroCells (zh β z).cells (newCap - (sLen + n))).toList, ?_, ?_⟩
  · simp [Builtin.zeroCells, qM, zK, hzs]
  · have hA := kN w
    obtain ⟨z1, z2⟩ := jL hE hz β { w with drawn := w.drawn + 1 }
    have hnc := fT (sLen + n) sCap hcap
    have hle : Builtin.nextslicecap (sLen + n) sCap * i.bytes ≤ 2 ^ 48 := by
      have h1 : Builtin.nextslicecap (sLen + n) sCap * i.bytes ≤ (2 * (sLen + n) + 1000) * i.bytes := Nat.mul_le_mul_right _ hnc
      have h2 : i.bytes ≤ (sLen + n) * i.bytes := Nat.le_mul_of_pos_left _ (by omega)
      have h3 : (2 * (sLen + n) + 1000) * i.bytes = 2 * ((sLen + n) * i.bytes) + 1000 * i.bytes := by rw [Nat.add_mul, Nat.mul_assoc]
      omega
    have hpos : ¬ (((sLen + n : Nat) : Int) > IntKind.i64.max) := by
      have : IntKind.i64.max = 9223372036854775807 := by decide
      rw [this]; omega
    have ea : (zq β old).toArray ++ (zq β new).toArray ++ Builtin.zeroCells (zh β z).cells (newCap - (sLen + n)) =
        (zq β (old ++ new) ++ (Builtin.zeroCells (zh β z).cells (newCap - (sLen + n))).toList).toArray := by
      apply Array.toList_inj.1
      simp [zK]
    unfold Builtin.append_
    simp only [List.getElem?_toArray, List.getElem?_cons_zero, List.getElem?_cons_succ, Sem.run_bind, zr hE hs, Result.andThen_ok, qk hE hsz, zr hE hxd, Sem.run_pure]
    rcases hmode with ⟨hni, hlen, hnew⟩ | ⟨hyi, hcx, hb1, hb2, z', hz', hzs', hnw⟩
    · cases xd
      case int => simp [isInt] at hni
      all_goals
        simp only [Bool.false_eq_true, if_false, Bool.not_false, if_true, false_or]
        rw [Sem.run_bind, hlen, Result.andThen_ok, if_neg (by omega)]
        simp only [Sem.run_bind, j3 hE hi, Result.andThen_ok]
        rw [if_neg (fun h => hpos h.1)]
        simp only [Sem.run_bind, j3 hE hi, Result.andThen_ok]
        rw [if_neg (by omega)]
        simp only [Sem.run_bind, run_choose, Question.forced, Bool.false_eq_true, if_false, Result.andThen_ok, j3 hE hi, run_askRoom, hcut, hold _ hA, hnew _ hA, z1]
        simp only [newRow, Sem.run_bind, run_newObj, Sem.run_pure, Result.andThen_ok]
        rw [show sLen + n + (newCap - (sLen + n)) = newCap by omega]
        rw [ea]; rfl
    · cases xd
      case int k' =>
        have hw := UN (β := β) (w := { w with drawn := w.drawn + 1 }) (n := n) hE hz' hzs'
        rw [← hnw] at hw
        simp only [if_true, Bool.not_true, Bool.false_eq_true, if_false, true_or, and_true, hcx]
        simp only [Sem.run_bind, az, wrap_i64 hb2, Result.andThen_ok]
        rw [if_neg (by omega)]
        simp only [Sem.run_bind, j3 hE hi, Result.andThen_ok]
        rw [if_neg (by omega)]
        simp only [Int.toNat_natCast]
        rw [Sem.run_bind, Sem.run_pure, Result.andThen_ok, if_neg (by omega)]
        simp only [Sem.run_bind, j3 hE hi, Result.andThen_ok]
        rw [if_neg hpos]
        simp only [Sem.run_bind, j3 hE hi, Result.andThen_ok]
        rw [if_neg (by omega)]
        simp only [Sem.run_bind, run_choose, Question.forced, Bool.false_eq_true, if_false, Result.andThen_ok, j3 hE hi, run_askRoom, hcut, hold _ hA, hw, z1]
        simp only [newRow, Sem.run_bind, run_newObj, Sem.run_pure, Result.andThen_ok]
        rw [show sLen + n + (newCap - (sLen + n)) = newCap by omega]
        rw [ea]; rfl
      all_goals simp [isInt] at hyi
theorem kz {β:Inj}{w w':World}{sT xT:TypeId}{e:TypeId}{xd:TypeDesc}{i:TypeInfo}{base:Option Addr}{sLen sCap n:Nat}{x:zd}{new:List zd}
  (hs:E.desc sT=some (.slice e)) (hxd:E.desc xT=some xd) (hi:E.types.get e=some i) (hmode:VH E β w e i xd x n new)
  (hst:(match base with | some a=>storeCells (a.add (sLen*i.size)) (zq β new) | none=>(pure ():Sem Unit)).run E.P w = .ok () w')
  (hcap:sLen+n≤sCap) (ty:TypeId) :
  (Builtin.append_ #[sT,xT] ty #[.slice base sLen sCap,zh β x]).run E.P w = .ok (.slice base (sLen+n) sCap) w':=by
 have hsz:E.size e=some i.size:=by unfold Env.size;rw [hi];rfl
 unfold Builtin.append_
 simp only [List.getElem?_toArray,List.getElem?_cons_zero,List.getElem?_cons_succ,Sem.run_bind,zr hE hs,Result.andThen_ok,qk hE hsz,zr hE hxd,Sem.run_pure]
 rcases hmode with ⟨hni,hlen,hnew⟩ | ⟨hyi,hcx,hb1,hb2,z',hz',hzs',hnw⟩
 ·cases xd
  case int=>simp [isInt]at hni
  all_goals
   simp only [Bool.false_eq_true,if_false,Bool.not_false,if_true]
   rw [Sem.run_bind,hlen,Result.andThen_ok,if_pos hcap]
   simp only [Sem.run_bind,hnew _ (alike_refl w),Result.andThen_ok]
   cases base with
   | none=>simp at hst ⊢;exact hst
   | some a=>simp only [Sem.run_bind,hst,Result.andThen_ok,Sem.run_pure]
 ·cases xd
  case int k'=>
   have hw:=UN (β:=β) (w:=w) (n:=n) hE hz' hzs'
   rw [← hnw]at hw
   simp only [if_true,Bool.not_true,Bool.false_eq_true,if_false,hcx]
   simp only [Sem.run_bind,az,wrap_i64 hb2,Result.andThen_ok]
   rw [if_neg (by omega)]
   simp only [Sem.run_bind,j3 hE hi,Result.andThen_ok]
   rw [if_neg (by omega)]
   simp only [Int.toNat_natCast]
   rw [Sem.run_bind,Sem.run_pure,Result.andThen_ok,if_pos hcap]
   simp only [Sem.run_bind,hw,Result.andThen_ok]
   cases base with
   | none=>simp at hst ⊢;exact hst
   | some a=>simp only [Sem.run_bind,hst,Result.andThen_ok,Sem.run_pure]
  all_goals simp [isInt]at hyi
theorem ZI {e:TypeId}{sz:Nat} (h:jX E e sz=true):∃ z,E.zero e=some z∧(zP z).length=sz:=by
 have _:=hE
 unfold jX at h
 cases hz:E.zero e with
 | none=>rw [hz]at h;cases h
 | some z=>rw [hz,zg,zG,jz,beq_iff_eq]at h;exact ⟨z,rfl,h⟩
theorem Rel.grown {P:Program}{β:Inj}{H:Heap}{w:World} (hR:Rel P β H w) (e:TypeId) {l:List zd} (hl:WFs β l) {k:Nat}{extra:List Value} (hk:extra.length=k*jC P e) :
  Rel P (β.put H.next (w.heap.size,0,k)) (Heap.new H e l) (push { w with drawn:=w.drawn+1 } (.cells (zq β l++extra).toArray e)) ∧
  Ext β H w (β.put H.next (w.heap.size,0,k)) (Heap.new H e l) (push { w with drawn:=w.drawn+1 } (.cells (zq β l++extra).toArray e)):=by
 have _:=hE
 have hA:=kN w
 have hR':=hR.alike hA
 obtain ⟨h1,h2⟩:=hR'.newRow (t:=e) (e:=k) (fz:=(0,0)) (kq.ofList hl extra k (by omega) (0,0) (by simp))
 exact ⟨h1,(Ext.alike hR.bnd hA).trans h2⟩
theorem X7 {P : Program} {β : Inj} {H : Heap} {w w' : World} (hR : Rel P β H w) (hA : Alike w w') {sz : Nat} {x : zd} {p : Nat × List zd} (h : kr H sz x = some p) (hx : WF β x) :
    (Builtin.firstCells sz p.1 (zh β x)).run P w' = .ok (zq β p.2).toArray w' := (Xz hE (hR.alike hA) h hx).2.1
theorem th {β:Inj}{H:Heap}{w:World} (hR:Rel E.P β H w) {e:TypeId}{i:TypeInfo}{xd:TypeDesc}{x:zd}{p:Nat×List zd}
  (h:ifB (isInt xd) (ot E e i x) (kr H i.size x)=some p) (hx:WF β x):VH E β w e i xd x p.1 p.2∧WFs β p.2:=by
 rw [zu]at h
 split at h
 ·rename_i hxd
  replace h:=zf h
  obtain ⟨q,hq,h⟩:=h
  have:=qU hq
  subst this
  replace h:=zl h
  obtain ⟨hk,h⟩:=h
  have hk:=ZA hk
  replace h:=qP h
  obtain ⟨n,hn,h⟩:=h
  replace h:=zl h
  obtain ⟨hr,h⟩:=h
  unfold roomy at hr
  rw [zB,Bool.and_eq_true,zN,zN,decide_eq_true_eq,decide_eq_true_eq]at hr
  replace h:=zf h
  obtain ⟨z,hz,h⟩:=h
  replace h:=zl h
  obtain ⟨hs,h⟩:=h
  rw [zG,jz,beq_iff_eq]at hs
  cases h
  refine ⟨Or.inr ⟨hxd,by simp [zh,hk,hn],hr.1,hr.2,z,hz,hs,rfl⟩,XO (jm (jL hE hz β w).2) _⟩
 ·rename_i hxd
  obtain ⟨g1,g2,g3,_⟩:=Xz hE hR h hx
  exact ⟨Or.inl ⟨by simpa using hxd,g1,fun w' hA=>X7 hE hR hA h hx⟩,g3⟩
theorem Q6 {β:Inj}{H H':Heap}{w:World} (hR:Rel E.P β H w) {sT xT:TypeId}{s x v:zd} (h:Wk E H sT xT s x=some (v,H')) (hs:WF β s) (hx:WF β x) (ty:TypeId) :
  Sim E.P β H w (Builtin.append_ #[sT,xT] ty #[zh β s,zh β x]) v H':=by
 replace h:=zf h
 obtain ⟨d,hd,h⟩:=h
 replace h:=zf h
 obtain ⟨e,he,h⟩:=h
 have:=jk he
 subst this
 replace h:=zf h
 obtain ⟨xd,hxd,h⟩:=h
 replace h:=zf h
 obtain ⟨i,hi,h⟩:=h
 replace h:=zf h
 obtain ⟨p,hp,h⟩:=h
 replace h:=zl h
 obtain ⟨hpl,h⟩:=h
 rw [zG,jz,beq_iff_eq]at hpl
 have hpl:p.2.length=p.1*i.size:=hpl
 obtain ⟨hmode,g3⟩:=th hE hR hp hx
 have hts:jC E.P e=i.size:=(yz hE (show E.size e=some i.size by unfold Env.size;rw [hi];rfl)).choose_spec.2.2.2
 unfold Wh at h
 cases h1:jN s with
 | none=>
  rw [h1,zm]at h
  replace h:=zl h
  obtain ⟨h2,h⟩:=h
  have:=je h2
  subst this
  obtain ⟨n,l⟩:=p
  cases n with
  | zero=>
   cases h
   refine zY.sim ⟨?_,trivial⟩ hR
   exact kz hE (base:=none) (sLen:=0) (sCap:=0) hd hxd hi hmode rfl (Nat.le_refl _) ty
  | succ n=>
   rw [JM]at h
   replace h:=zl h
   obtain ⟨h3,h⟩:=h
   rw [zB,Bool.and_eq_true]at h3
   obtain ⟨z,hz,hzs⟩:=ZI hE h3.1
   have h4:=h3.2
   unfold roomy at h4
   rw [zB,Bool.and_eq_true,zN,zN,decide_eq_true_eq,decide_eq_true_eq]at h4
   replace h:=zl h
   obtain ⟨h5,h⟩:=h
   simp only [z7]at h
   have h:=jt h
   cases h
   obtain ⟨k,extra,k1,k2⟩:=run_append_grow hE (sLen:=0) (sCap:=0) (base:=none) (old:=[]) (new:=l) (n:=n+1) hd hxd hi hz hzs (by simpa using h4.1) (by simpa using h4.2) hmode
    (fun w' _=>by simp [Builtin.firstCells,zq]) (by omega) ty
   obtain ⟨r1,r2⟩:=hR.grown hE e g3 (k:=k) (extra:=extra) (by rw [hts];exact k1)
   refine ⟨_,_,?_,⟨by simp [Inj.zM],Nat.le_refl _⟩,r1,r2⟩
   rw [show zh β .nilslice = .slice none 0 0 from rfl,k2]
   simp [zh,ka,Xc]
 | some q=>
  have:=jo h1
  subst this
  rw [h1,zg,zu,zN]at h
  split at h
  ·
   rename_i hc
   rw [decide_eq_true_eq]at hc
   have hc:q.len+p.1≤q.cap:=hc
   replace h:=zf h
   obtain ⟨H1,hst,h⟩:=h
   cases h
   obtain ⟨w',s1,s2,s3⟩:=hR.Zq hst hs.1 g3
   refine ⟨β,w',?_,⟨hs.1,hc⟩,s2,s3⟩
   have e1:(β.addr q.b q.off).add (q.len*i.size)=β.addr q.b (Nat.add q.off (Nat.mul q.len i.size)):=Inj.jf _ _ _ _
   exact kz hE (base:=some (β.addr q.b q.off)) hd hxd hi hmode (by show (storeCells _ _).run _ _=_;rw [e1];exact s1) (by split<;>omega) ty
  ·rename_i hc
   rw [decide_eq_true_eq]at hc
   have hc:¬ q.len+p.1≤q.cap:=hc
   replace h:=zl h
   obtain ⟨h3,h⟩:=h
   rw [zB,Bool.and_eq_true]at h3
   obtain ⟨z,hz,hzs⟩:=ZI hE h3.1
   have h4:=h3.2
   unfold roomy at h4
   rw [zB,Bool.and_eq_true,zN,zN,decide_eq_true_eq,decide_eq_true_eq]at h4
   obtain ⟨h41,h42⟩:=h4
   have h41:(q.len+p.1)*i.bytes≤1000000000:=h41
   have h42:q.len+p.1≤1000000000:=h42
   replace h:=zf h
   obtain ⟨r,hr,h⟩:=h
   replace h:=zf h
   obtain ⟨old,hold,h⟩:=h
   have hl:H.jM q.b q.off (q.len*i.size)=some old:=by
    unfold Heap.jM;rw [hr];exact hold
   have hold':∀ c w',Alike w w'→(Builtin.firstCells i.size q.len (.slice (some (β.addr q.b q.off)) q.len c)).run E.P w' = .ok (zq β old).toArray w':=by
    intro c w' hA
    have:=((hR.alike hA).jM hl hs.1).2.2
    simp [Builtin.firstCells,this]
   have hWold:WFs β old:=(hR.jM hl hs.1).2.1
   have holdlen:old.length=q.len*i.size:=(hR.jM hl hs.1).1
   have hWnew:WFs β (old++p.2):=by
    rw [jb]at *
    intro v hv
    rcases List.mem_append.1 hv with hv | hv
    ·exact hWold v hv
    ·exact g3 v hv
   rw [zu]at h
   split at h
   ·
    rename_i hex
    replace h:=zl h
    obtain ⟨h5,h⟩:=h
    simp only [z7]at h
    have h:=jt h
    cases h
    obtain ⟨k,extra,k1,k2⟩:=run_append_grow hE (sLen:=q.len) (sCap:=q.cap) (base:=some (β.addr q.b q.off)) (old:=old) (new:=p.2) (n:=p.1) hd hxd hi hz hzs h41 h42 hmode
     (hold' _) (by omega) ty
    obtain ⟨r1,r2⟩:=hR.grown hE e hWnew (k:=k) (extra:=extra) (by rw [hts];exact k1)
    refine ⟨β.put H.next (w.heap.size,0,k),_,?_,⟨by simp [Inj.zM],Nat.le_refl _⟩,by rw [qy];exact r1,by rw [qy];exact r2⟩
    rw [show zh β (.slice q.b q.off q.len q.cap q.ex) = .slice (some (β.addr q.b q.off)) q.len q.cap by simp [zh,hex],k2]
    simp [zh,ka,Xc]
   ·rename_i hex
    replace h:=zl h
    obtain ⟨hk,h⟩:=h
    rw [zB,Bool.and_eq_true,zB,Bool.and_eq_true,zB,Bool.and_eq_true,zG,beq_iff_eq,zG,beq_iff_eq,zG,beq_iff_eq,zN,decide_eq_true_eq]at hk
    obtain ⟨h60,hrt,hal,hk⟩:=hk
    have hal:q.off % i.size=0:=hal
    have hk:q.off+q.cap*i.size=r.n:=hk
    replace h:=zl h
    obtain ⟨h5,h⟩:=h
    simp only [z7]at h
    have h:=jt h
    cases h
    obtain ⟨y,hy⟩:=Option.isSome_iff_exists.1 hs.1
    obtain ⟨hD1,hD2⟩:=hR.del h60 hy
    have hcs:zh β (.slice q.b q.off q.len q.cap q.ex) = .slice (some (β.addr q.b q.off)) q.len (q.cap+β.ext q.b):=by
     simp only [zh];rw [if_neg hex]
    rcases Nat.lt_or_ge (q.cap+β.ext q.b) (q.len+p.1) with hlt | hge
    ·
     obtain ⟨k,extra,k1,k2⟩:=run_append_grow hE (sLen:=q.len) (sCap:=q.cap+β.ext q.b) (base:=some (β.addr q.b q.off)) (old:=old) (new:=p.2) (n:=p.1) hd hxd hi hz hzs h41 h42 hmode
      (hold' _) hlt ty
     obtain ⟨r1,r2⟩:=hD1.grown hE e hWnew (k:=k) (extra:=extra) (by rw [hts];exact k1)
     refine ⟨β.put H.next (w.heap.size,0,k),_,?_,⟨by simp [Inj.zM],Nat.le_refl _⟩,by rw [qy];exact r1,by rw [qy];exact hD2.trans r2⟩
     rw [hcs,k2]
     simp [zh,ka,Xc]
    ·
     obtain ⟨arr,fz,a1,a2⟩:=hR.rowAt hr hs.1
     have hsize:=a2.size
     rw [hrt,hts]at hsize
     have hmul:(q.cap+β.ext q.b)*i.size=q.cap*i.size+β.ext q.b*i.size:=Nat.add_mul _ _ _
     have hmul2:(q.len+p.1)*i.size≤(q.cap+β.ext q.b)*i.size:=Nat.mul_le_mul_right _ hge
     have hmul3:(q.len+p.1)*i.size=q.len*i.size+p.1*i.size:=Nat.add_mul _ _ _
     have hok:∀ v∈p.2,kn v=true:=by
      rw [Ze,List.all_eq_true]at h5
      intro v hv
      exact h5 v (by rw [qy];exact List.mem_append_right _ hv)
     obtain ⟨w',arr',s1,s2,s3,s4,s5⟩:=Yd (P:=E.P) (β.blk q.b) (β.sh q.b+q.off+q.len*i.size) r.t fz (zq β p.2) 0 w arr a1 a2.thaw
      (by rw [zK,List.length_map];omega) (by
       intro u hu
       rw [zK]at hu
       obtain ⟨v,hv,rfl⟩:=List.mem_map.1 hu
       exact XW (hok v hv))
     have hx1:β.blk q.b=y.1:=by simp [Inj.blk,hy]
     let y':Nat×Nat×Nat:=(β.blk q.b,β.sh q.b+q.off,q.cap+β.ext q.b-(q.len+p.1))
     have hrow:kq E.P β e (qT (old++p.2) 0) (Tr.ofList (old++p.2)) y'.2.1 y'.2.2 arr' fz:=by
      refine ⟨?_,?_,by rw [s4];exact a2.thaw,by rw [hts];exact Nat.dvd_add (by have:=a2.al;rwa [hrt,hts]at this) (Nat.dvd_of_mod_eq_zero hal)⟩
      ·rw [s4,jz,List.length_append,holdlen,hpl,hts]
       have:(q.cap+β.ext q.b-(q.len+p.1))*i.size=(q.cap+β.ext q.b)*i.size-(q.len+p.1)*i.size:=Nat.sub_mul _ _ _
       show β.sh q.b+q.off+(q.len*i.size+p.1*i.size)+(q.cap+β.ext q.b-(q.len+p.1))*i.size≤arr.size
       omega
      ·intro k v hv
       rw [Tr.qV]at hv
       refine ⟨(jb _ _).1 hWnew v (List.mem_of_getElem? hv),?_⟩
       show arr'[β.sh q.b+q.off+k]? = _
       rw [s5,zK,List.length_map]
       by_cases hk2:k<old.length
       ·rw [List.getElem?_append_left hk2]at hv
        rw [if_neg (by omega)]
        obtain ⟨t1,t2⟩:=Tr.kh _ _ _ _ hold
        have:=a2.cell (q.off+k) v (by rw [t2 k (by rw [holdlen]at hk2;exact hk2)];exact hv)
        rw [← this.2];congr 1;omega
       ·rw [List.getElem?_append_right (by omega)]at hv
        have hk3:=(List.getElem?_eq_some_iff.1 hv).1
        rw [if_pos (by omega),List.getElem?_map]
        have:β.sh q.b+q.off+k-(β.sh q.b+q.off+q.len*i.size+0)=k-old.length:=by omega
        rw [this,hv];rfl
     obtain ⟨b0,hb0,_⟩:=QC hr
     obtain ⟨r1,r2⟩:=hR.rename (b':=.cells e (qT (old++p.2) 0) (Tr.ofList (old++p.2))) (y:=y') h60 hb0 hy hx1 (by rw [← hx1];exact s3)
      ⟨arr',fz,by rw [← hrt];exact s2,hrow.mono (Inj.j4 (hR.fresh (Nat.le_refl _)))⟩
     refine ⟨β.put H.next y',w',?_,⟨by simp [Inj.zM],Nat.le_refl _⟩,by rw [qy];exact r1,by rw [qy];exact r2⟩
     have e1:(β.addr q.b q.off).add (q.len*i.size)=⟨β.blk q.b,β.sh q.b+q.off+q.len*i.size,none⟩:=by
      rw [Inj.jf];simp [Inj.addr,Nat.add_assoc]
     rw [hcs,kz hE (w':=w') (base:=some (β.addr q.b q.off)) hd hxd hi hmode (by show (storeCells _ _).run _ _=_;rw [e1];exact s1) hge ty]
     simp only [zh,Bool.false_eq_true,if_false]
     congr 2
     ·simp [Inj.addr,Inj.blk,Inj.sh,Inj.zM,y']
     ·simp only [Inj.ext,Inj.zM,Option.getD_some,y']
      show q.cap+β.ext q.b=q.len+p.1+(q.cap+β.ext q.b-(q.len+p.1))
      omega
omit hE in
theorem Rel.pe {P:Program}{β:Inj}{B:Tr zJ}{id nx:Nat}{b b':zJ}{w:World} (h:Rel P β ⟨Tr.set B id b,nx⟩ w) (hc:∀ β x w,zZ P β b x w→zZ P β b' x w):Rel P β ⟨Tr.set B id b',nx⟩ w:=by
 have get:∀ i c,(Tr.set B id b').get i=some c→∃ c',(Tr.set B id b).get i=some c'∧∀ x,zZ P β c' x w→zZ P β c x w:=by
  intro i c hb
  rw [Tr.zR]at hb
  rw [Tr.zR]
  split at hb
  ·rename_i hi
   cases hb
   exact ⟨_,if_pos hi,fun x hx=>hc _ _ _ hx⟩
  ·rename_i hi
   exact ⟨c,by rw [if_neg hi];exact hb,fun _ hx=>hx⟩
 refine ⟨h.base,fun i b x hb hx=>?_,fun i j b c x y hb hx hc hy e=>?_,h.bnd,fun i b hb=>?_⟩
 ·obtain ⟨b',hb',hr⟩:=get i b hb
  exact hr x (h.blk i b' x hb' hx)
 ·obtain ⟨b',hb',_⟩:=get i b hb
  obtain ⟨d',hd',_⟩:=get j c hc
  exact h.inj i j b' d' x y hb' hx hd' hy e
 ·obtain ⟨b',hb',_⟩:=get i b hb
  exact h.live i b' hb'
omit hE in
theorem Ext.pe {β γ:Inj}{H:Heap}{B:Tr zJ}{id nx:Nat}{b b':zJ}{w w':World} (h:Ext β H w γ ⟨Tr.set B id b,nx⟩ w') (hm:H.next≤id∨(100≤id∧(β id).isSome)) (hb:100≤H.next):Ext β H w γ ⟨Tr.set B id b',nx⟩ w':=by
 have other:∀ i,i≠id→(Tr.set B id b').get i=(Tr.set B id b).get i:=fun i hi=>by
  rw [Tr.zR,Tr.zR,if_neg (fun e=>hi e.symm),if_neg (fun e=>hi e.symm)]
 refine ⟨h.old,h.next,fun i h1 h2=>?_,fun i c h1 h2=>?_,fun i h1=>?_,h.new,h.frame,h.size,h.tape,h.os,h.output⟩
 ·have hne:i≠id:=by
   rintro rfl
   rcases hm with h3 | ⟨_,h3⟩
   ·omega
   ·rw [h2]at h3;cases h3
  exact (other i hne).trans (h.apart i h1 h2)
 ·by_cases hi:i=id
  ·subst hi
   exact h.gone i b h1 (by show (Tr.set B i b).get i=some b;rw [Tr.zR,if_pos rfl])
  ·exact h.gone i c h1 ((other i hi).symm.trans h2)
 ·have hne:i≠id:=by
   rintro rfl
   rcases hm with h3 | ⟨h3,_⟩<;>omega
  exact (other i hne).trans (h.ro i h1)
def cy (β:Inj) (H H0 H':Heap):Prop:=
 H'=H0∨∃ B id b b' nx,H0=⟨Tr.set B id b,nx⟩∧H'=⟨Tr.set B id b',nx⟩∧(∀ (P:Program) (β:Inj) x w,zZ P β b x w→zZ P β b' x w)∧(H.next≤id∨(100≤id∧(β id).isSome))
omit hE in
theorem Sim.iP {P:Program}{β:Inj}{H H0 H':Heap}{w:World}{m:Sem Value}{v:zd} (h:Sim P β H w m v H0) (hb:100≤H.next) (hs:cy β H H0 H'):Sim P β H w m v H':=by
 rcases hs with rfl | ⟨B,id,b,b',nx,rfl,rfl,h1,h2⟩
 ·exact h
 ·obtain ⟨β',w',r1,r2,r3,r4⟩:=h
  exact ⟨β',w',r1,r2,r3.pe (h1 P),r4.pe h2 hb⟩
omit hE in
theorem KN {P:Program}{t:TypeId}{n:Nat}{c c':Tr zd} (h:∀ i,c'.get i=c.get i) {β:Inj}{x:Nat×Nat×Nat}{w:World} (hr:zZ P β (.cells t n c) x w):zZ P β (.cells t n c') x w:=by
 obtain ⟨arr,fz,h1,h2⟩:=hr
 exact ⟨arr,fz,h1,h2.size,fun i v hv=>h2.cell i v (by rw [← h];exact hv),h2.thaw,h2.al⟩
omit hE in
theorem UT {P:Program}{t:TypeId}{n N:Nat}{c:Tr zd} (h:∀ i,(unp n N).get i=c.get i) {β:Inj}{x:Nat×Nat×Nat}{w:World} (hr:zZ P β (.cells t n c) x w):zZ P β (.pack t n N) x w:=KN h hr
omit hE in
theorem iu {β:Inj}{H H':Heap}{e:TypeId}{i:TypeInfo}{s v:zd}{n:Nat}{new:List zd} (h:ti E H e i s n new=some (v,H')):∃ H0,Wh E H e i s n new=some (v,H0)∧cy β H H0 H':=by
 unfold ti at h
 unfold Wh
 cases h1:jN s with
 | none=>rw [h1]at h;exact ⟨H',h,.inl rfl⟩
 | some q=>
  rw [h1,zg]at h
  rw [zg]
  rw [zu]at h ⊢
  split at h
  ·rename_i hc;rw [if_pos hc];exact ⟨H',h,.inl rfl⟩
  ·rename_i hc
   rw [if_neg hc]
   obtain ⟨h2,h⟩:=zl h
   rw [h2,qI]
   obtain ⟨B,k,c,c',e1,e2,e3⟩:=iy h
   exact ⟨_,e2,.inr ⟨B,H.next,_,_,_,rfl,e1,fun P β x w hr=>KN e3 hr,.inl (Nat.le_refl _)⟩⟩
theorem K8 {β:Inj}{H H':Heap}{w:World} (hR:Rel E.P β H w) {sT xT:TypeId}{s x v:zd} (h:eU E H sT xT s x=some (v,H')) (hs:WF β s) (hx:WF β x) (ty:TypeId) :
  Sim E.P β H w (Builtin.append_ #[sT,xT] ty #[zh β s,zh β x]) v H':=by
 obtain ⟨d,hd,h⟩:=zf h
 obtain ⟨e,he,h⟩:=zf h
 obtain ⟨xd,hxd,h⟩:=zf h
 obtain ⟨i,hi,h⟩:=zf h
 obtain ⟨p,hp,h⟩:=zf h
 obtain ⟨hl,h⟩:=zl h
 obtain ⟨H0,h0,hsw⟩:=iu (β:=β) h
 refine (Q6 hE hR (v:=v) (H':=H0) ?_ hs hx ty).iP hR.base hsw
 unfold Wk
 rw [hd,qi,he,qi,hxd,qi,hi,qi,hp,qi,hl,qI]
 exact h0
omit hE in
theorem ar:∀ {cs:List zd}{l:List Nat},yJ cs=some l→cs=l.map u8∧∀ b∈l,b<256
 | [],l,h=>by
  have h:some ([]:List Nat)=some l:=h
  cases h;exact ⟨rfl,by simp⟩
 | v::cs,l,h=>by
  have h:(bnd (Xi v) fun b=>bnd (yJ cs) fun m=>some (b::m))=some l:=(Qf Xi v cs).symm.trans h
  obtain ⟨b,hb,h⟩:=zf h
  obtain ⟨m,hm,h⟩:=zf h
  cases h
  obtain ⟨p,hp,hb⟩:=zf hb
  have:=qU hp
  subst this
  obtain ⟨hu,hb⟩:=zl hb
  obtain ⟨n,hn,hb⟩:=qP hb
  obtain ⟨hl,hb⟩:=zl hb
  cases hb
  rw [qo,decide_eq_true_eq]at hl
  obtain ⟨e1,e2⟩:=ar hm
  refine ⟨by rw [List.map_cons,JS hu,hn,e1];rfl,fun x hx=>?_⟩
  rcases List.mem_cons.1 hx with rfl | hx
  ·exact hl
  ·exact e2 x hx
structure Holds (bs:List Nat) (n N:Nat):Prop where
 len:bs.length=n
 byte:∀ b∈bs,b<256
 lt:N<2 ^ (8*n)
 at_:∀ i,i<n→bs[i]? = some (byteOf N i)
omit hE in
theorem Holds.Q5 {bs:List Nat} (h:∀ b∈bs,b<256):Holds bs bs.length (Q5 bs 0 0):=by
 obtain ⟨h1,h2⟩:=dm bs 0 0 h (by decide)
 rw [Nat.zero_add]at h1
 refine ⟨rfl,h,h1,fun i hi=>?_⟩
 have:=h2 i
 rw [if_neg (by omega),Nat.sub_zero,List.getElem?_eq_getElem hi]at this
 rw [List.getElem?_eq_getElem hi]
 exact congrArg some this.symm
omit hE in
theorem Holds.cat {as bs:List Nat}{n m S M:Nat} (h1:Holds as n S) (h2:Holds bs m M):Holds (as++bs) (n+m) (Wa n S M):=by
 refine ⟨by rw [List.length_append,h1.len,h2.len],fun b hb=>?_,?_,fun i hi=>?_⟩
 ·rcases List.mem_append.1 hb with hb | hb
  ·exact h1.byte b hb
  ·exact h2.byte b hb
 ·rw [Vv,show 8*(n+m)=8*n+8*m from by omega,Nat.pow_add]
  have h3:M+1≤2 ^ (8*m):=h2.lt
  have h4:=Nat.mul_le_mul_left (2 ^ (8*n)) h3
  have h5:=h1.lt
  rw [Nat.mul_add,Nat.mul_one,Nat.mul_comm _ M]at h4
  omega
 ·rw [QT h1.lt]
  by_cases hn:i<n
  ·rw [if_pos hn,List.getElem?_append_left (by rw [h1.len];exact hn)];exact h1.at_ i hn
  ·rw [if_neg hn,List.getElem?_append_right (by rw [h1.len];omega),h1.len];exact h2.at_ _ (by omega)
omit hE in
theorem Holds.get {bs:List Nat}{n N:Nat} (h:Holds bs n N) (i:Nat):(unp n N).get i=(Tr.ofList (bs.map u8)).get i:=by
 rw [JV,Tr.qV,List.getElem?_map]
 by_cases hi:i<n
 ·rw [if_pos hi,h.at_ i hi];rfl
 ·rw [if_neg hi,List.getElem?_eq_none (by rw [h.len];omega)];rfl
omit hE in
theorem Holds.ok {bs:List Nat}:ZF kn (bs.map u8)=true:=by
 rw [Ze,List.all_eq_true]
 intro v hv
 obtain ⟨b,_,rfl⟩:=List.mem_map.1 hv
 rfl
omit hE in
theorem fH {H:Heap}{q:Sl}{p:Nat×Nat} (h:pvS H q=some p):p.1=q.len∧∃ bs,Holds bs q.len p.2∧H.jM q.b q.off q.len=some (bs.map u8):=by
 unfold pvS at h
 obtain ⟨b,hb,h⟩:=zf h
 cases hp:bX b with
 | none=>
  rw [hp,zm]at h
  obtain ⟨l,hl,h⟩:=zf h
  obtain ⟨bs,hbs,h⟩:=zf h
  cases h
  obtain ⟨e1,e2⟩:=ar hbs
  subst e1
  have hlen:bs.length=q.len:=by
   unfold Heap.jM at hl
   obtain ⟨r,hr,hl⟩:=zf hl
   have:=(Tr.kh _ _ _ _ hl).1
   rwa [List.length_map]at this
  have:=Holds.Q5 e2
  rw [hlen]at this
  exact ⟨rfl,bs,this,hl⟩
 | some k=>
  rw [hp,zg]at h
  obtain ⟨hle,h⟩:=zl h
  cases h
  rw [zN,decide_eq_true_eq]at hle
  have hle:q.off+q.len≤k.n:=hle
  have hbk:b = .pack k.t k.n k.N:=by cases b<;>cases hp;rfl
  subst hbk
  have hrow:H.row q.b=some ⟨k.t,k.n,unp k.n k.N⟩:=by unfold Heap.row;rw [hb];rfl
  obtain ⟨l,hl⟩:=U8 q.len (unp k.n k.N) q.off fun i hi=>⟨_,by rw [JV,if_pos (by omega)]⟩
  obtain ⟨l1,l2⟩:=Tr.kh _ _ _ _ hl
  refine ⟨rfl,unpL q.len (Qy k.N q.off q.len),⟨unpL_length _ _,unpL_lt _ _,sub_lt _ _ _,fun i hi=>unpL_get hi⟩,?_⟩
  unfold Heap.jM
  rw [hrow,qi,hl]
  congr 1
  refine List.ext_getElem? fun i=>?_
  rw [List.getElem?_map]
  by_cases hi:i<q.len
  ·rw [← l2 i hi,JV,if_pos (by omega),unpL_get hi,Yt hi];rfl
  ·rw [List.getElem?_eq_none (by omega),List.getElem?_eq_none (by rw [unpL_length];omega)];rfl
omit hE in
theorem Cx {β:Inj}{H:Heap}{x:zd}{p:Nat×Nat} (h:pv H x=some p) (hx:WF β x):∃ bs,Holds bs p.1 p.2∧kr H 1 x=some (p.1,bs.map u8):=by
 unfold pv at h
 unfold kr
 cases h1:jN x with
 | some q=>
  rw [h1,zg]at h
  rw [zg]
  obtain ⟨e1,bs,e2,e3⟩:=fH h
  rw [e1]
  refine ⟨bs,e2,?_⟩
  rw [show Nat.mul q.len 1=q.len from Nat.mul_one _,e3]
  rfl
 | none=>
  rw [h1,zm,zu]at h
  rw [zm]
  split at h
  ·rename_i h2
   have:=je h2
   subst this
   cases h
   exact ⟨[],⟨rfl,by simp,by decide,fun i hi=>by omega⟩,rfl⟩
  ·obtain ⟨s,hs,h⟩:=zf h
   cases h
   have:=qw hs
   subst this
   have hw:∀ b∈s,b<256:=hx
   refine ⟨s,by rw [jz];exact Holds.Q5 hw,?_⟩
   show some (qT s 0,mapA u8 s)=_
   rw [jA]
theorem xw {e:TypeId}{i:TypeInfo} (h1:i.size=1) (h2:i.bytes=1) {x:zd}{p:Nat×Nat} (h:pvN E e x=some p):∃ bs,Holds bs p.1 p.2∧ot E e i x=some (p.1,bs.map u8):=by
 unfold pvN at h
 obtain ⟨q,hq,h⟩:=zf h
 obtain ⟨hk,h⟩:=zl h
 obtain ⟨n,hn,h⟩:=qP h
 obtain ⟨hro,h⟩:=zl h
 obtain ⟨z,hz,h⟩:=zf h
 obtain ⟨hv,h⟩:=zl h
 cases h
 have hzz:=zX _ _ hv
 subst hzz
 have hrep:∀ n,yY (zP (u8 0)) n=(List.replicate n 0).map u8:=by
  intro n
  induction n with
  | zero=>rfl
  | succ n ih=>
   have e:yY (zP (u8 0)) (n+1)=jv (zP (u8 0)) (yY (zP (u8 0)) n):=rfl
   rw [e,qy,ih,List.replicate_succ,List.map_cons]
   rfl
 have hb:∀ b∈List.replicate n 0,b<256:=by
  intro b hb
  rw [(List.mem_replicate.1 hb).2];decide
 refine ⟨List.replicate n 0,⟨List.length_replicate,hb,Nat.pow_pos (by decide),fun i hi=>?_⟩,?_⟩
 ·have hi:i<n:=hi
  rw [List.getElem?_replicate,if_pos hi,jr,Nat.zero_div]
 ·unfold ot
  rw [hq,qi,hk,qI,hn]
  show ifB (roomy n i.bytes) _ none=_
  rw [h2,hro,qI,hz,qi,h1,← hrep]
  rfl
omit hE in
theorem Yj {H2 H':Heap}{e:TypeId}{n N:Nat}{v:zd}{bs:List Nat} (h:YO H2 e n N=some (v,H')) (hb:Holds bs n N) :
  ∃ b b',yQ H2 e n (bs.map u8)=some (v,⟨Tr.set H2.blk H2.next b,H2.next+1⟩)∧H'=⟨Tr.set H2.blk H2.next b',H2.next+1⟩∧∀ (P:Program) (β:Inj) x w,zZ P β b x w→zZ P β b' x w:=by
 unfold YO at h
 simp only [z7]at h
 cases h
 refine ⟨.cells e n (Tr.ofList (bs.map u8)),.pack e n N,?_,rfl,fun P β x w hr=>UT hb.get hr⟩
 unfold yQ
 rw [Holds.ok,qI,z7]
 show some (zd.slice H2.next 0 n n false,Heap.new ⟨H2.blk,H2.next⟩ e (bs.map u8))=_
 unfold Heap.new
 rw [jz,List.length_map,hb.len]
theorem ng {β:Inj}{H H':Heap}{e:TypeId}{i:TypeInfo} (h1:i.size=1) (h2:i.bytes=1) (hz:jX E e 1=true) {s v:zd} (hs:WF β s) {p:Nat×Nat}{bs:List Nat} (hp:Holds bs p.1 p.2) (h:fL H e s p=some (v,H')) :
  ∃ H0,Wh E H e i s p.1 (bs.map u8)=some (v,H0)∧cy β H H0 H':=by
 unfold fL at h
 unfold Wh
 cases hq:jN s with
 | none=>
  rw [hq,zm]at h
  obtain ⟨hn,h⟩:=zl h
  obtain ⟨m,hm,h⟩:=Qk h
  obtain ⟨hro,h⟩:=zl h
  obtain ⟨b,b',k1,k2,k3⟩:=Yj h hp
  refine ⟨⟨Tr.set H.blk H.next b,H.next+1⟩,?_,.inr ⟨H.blk,H.next,b,b',_,rfl,k2,k3,.inl (Nat.le_refl _)⟩⟩
  rw [zm,hn,qI]
  have e1:∀ f:Nat→R,Q9 p.1 (some (zd.nilslice,H)) f=f m:=fun f=>by rw [hm];rfl
  rw [e1,h1,h2,hz,hro]
  exact k1
 | some q=>
  rw [hq,zg,zu]at h
  rw [zg,zu]
  have hP:=h
  clear h
  have:=jo hq
  subst this
  split at hP
  ·rename_i hc
   rw [if_pos hc]
   unfold pR at hP
   obtain ⟨b,hb,hP⟩:=zf hP
   obtain ⟨k,hk,hP⟩:=zf hP
   rw [z7]at hP
   obtain ⟨hc2,hP⟩:=zl hP
   simp only [z7]at hP
   cases hP
   have hbk:b = .pack k.t k.n k.N:=by cases b<;>cases hk;rfl
   subst hbk
   rw [zB,Bool.and_eq_true,zN,zN,decide_eq_true_eq,decide_eq_true_eq]at hc2
   obtain ⟨h60,hle⟩:=hc2
   have hle:q.off+q.len+p.1≤k.n:=hle
   have hrow:H.row q.b=some ⟨k.t,k.n,unp k.n k.N⟩:=by unfold Heap.row;rw [hb];rfl
   refine ⟨H.put q.b ⟨k.t,k.n,unp k.n k.N⟩ (Tr.mT (bs.map u8) (unp k.n k.N) (q.off+q.len)),?_,.inr ⟨H.blk,q.b,_,_,H.next,rfl,rfl,fun P β x w hr=>UT (fun j=>?_) hr,.inr ⟨h60,hs.1⟩⟩⟩
   ·unfold tj Heap.Zq
    rw [h1,hrow,qi]
    have e1:Nat.add q.off (Nat.mul q.len 1)=q.off+q.len:=by show q.off+q.len*1=_;rw [Nat.mul_one]
    have e2:zH (Nat.ble 100 q.b) (zH (Nat.ble (Nat.add (q.off+q.len) (qT (bs.map u8) 0)) k.n) (ZF kn (bs.map u8)))=true:=by
     rw [Holds.ok,jz,List.length_map,hp.len,zB,zB,zN,zN,decide_eq_true h60]
     simp only [Bool.and_true,Bool.true_and,decide_eq_true_eq]
     exact hle
    rw [e1,e2,qI,qi]
    rfl
   ·rw [JV,Tr.Kv,List.length_map,hp.len,JV]
    have hS:Qy k.N 0 (q.off+q.len)<2 ^ (8*(q.off+q.len)):=sub_lt _ _ _
    by_cases hj:j<k.n
    ·rw [if_pos hj]
     have ec:byteOf (Wa (Nat.add q.off q.len) (Qy k.N 0 (Nat.add q.off q.len)) (Wa p.1 p.2 (Nat.shiftRight k.N (Nat.mul 8 (Nat.add (Nat.add q.off q.len) p.1))))) j=if j<q.off+q.len then byteOf (Qy k.N 0 (q.off+q.len)) j else byteOf (Wa p.1 p.2 (Nat.shiftRight k.N (8*(q.off+q.len+p.1)))) (j-(q.off+q.len)):=QT hS
     rw [ec]
     by_cases ho:j<q.off+q.len
     ·rw [if_pos ho,if_neg (by omega),if_pos hj,Yt ho,Nat.zero_add]
     ·rw [if_neg ho,QT hp.lt]
      by_cases hm2:j-(q.off+q.len)<p.1
      ·rw [if_pos hm2,if_pos (by omega),List.getElem?_map,hp.at_ _ hm2];rfl
      ·rw [if_neg hm2,if_neg (by omega),if_pos hj,Yu]
       congr 4;omega
    ·rw [if_neg hj,if_neg (by omega),if_neg hj]
  ·rename_i hc
   rw [if_neg hc]
   obtain ⟨hro,hP⟩:=zl hP
   obtain ⟨a,ha,hP⟩:=zf hP
   rw [z7]at hP
   obtain ⟨_,as,ha1,ha2⟩:=fH ha
   have hcat:=ha1.cat hp
   rw [h1,h2,hz,hro]
   show ∃ H0,yd H e 1 q p.1 (bs.map u8)=some (v,H0)∧_
   unfold Heap.jM at ha2
   obtain ⟨r,hr,ha2⟩:=zf ha2
   unfold yd
   rw [hr,qi,show Nat.mul q.len 1=q.len from Nat.mul_one _,ha2,qi,qy,← List.map_append]
   rw [zu]at hP ⊢
   split at hP
   ·rename_i hx
    rw [if_pos hx]
    obtain ⟨b,b',k1,k2,k3⟩:=Yj hP hcat
    exact ⟨_,k1,.inr ⟨H.blk,H.next,b,b',_,rfl,k2,k3,.inl (Nat.le_refl _)⟩⟩
   ·rename_i hx
    rw [if_neg hx]
    rw [hr,qi]at hP
    obtain ⟨hcond,hP⟩:=zl hP
    obtain ⟨b,b',k1,k2,k3⟩:=Yj hP hcat
    refine ⟨_,?_,.inr ⟨H.blk.del q.b,H.next,b,b',_,rfl,k2,k3,.inl (Nat.le_refl _)⟩⟩
    have e3:zH (Nat.ble 100 q.b) (zH (Nat.beq r.t e) (zH (Nat.beq (Nat.mod q.off 1) 0) (Nat.beq (Nat.add q.off (Nat.mul q.cap 1)) r.n)))=true:=by
     simp only [zB,Bool.and_eq_true]at hcond ⊢
     refine ⟨hcond.1,hcond.2.1,?_,?_⟩
     ·rw [zG,beq_iff_eq];exact Nat.mod_one _
     ·rw [show Nat.mul q.cap 1=q.cap from Nat.mul_one _];exact hcond.2.2
    rw [e3,qI]
    exact k1
theorem Ug {β:Inj}{H H':Heap}{w:World} (hR:Rel E.P β H w) {sT xT:TypeId}{s x v:zd} (h:ba E H sT xT s x=some (v,H')) (hs:WF β s) (hx:WF β x) (ty:TypeId) :
  Sim E.P β H w (Builtin.append_ #[sT,xT] ty #[zh β s,zh β x]) v H':=by
 obtain ⟨d,hd,h⟩:=zf h
 obtain ⟨e,he,h⟩:=zf h
 obtain ⟨xd,hxd,h⟩:=zf h
 obtain ⟨i,hi,h⟩:=zf h
 obtain ⟨ed,hed,h⟩:=zf h
 obtain ⟨k,hk,h⟩:=zf h
 obtain ⟨hc,h⟩:=zl h
 simp only [zB,Bool.and_eq_true,zG,beq_iff_eq]at hc
 obtain ⟨_,h1,h2,hz⟩:=hc
 obtain ⟨p,hp,h⟩:=zf h
 have hsrc:∃ bs,Holds bs p.1 p.2∧ifB (isInt xd) (ot E e i x) (kr H i.size x)=some (p.1,bs.map u8):=by
  rw [zu]at hp ⊢
  split at hp
  ·rename_i hi2
   rw [if_pos hi2]
   exact xw hE h1 h2 hp
  ·rename_i hi2
   rw [if_neg hi2,h1]
   exact Cx hp hx
 obtain ⟨bs,hb,hsrc⟩:=hsrc
 obtain ⟨H0,h0,hsw⟩:=ng hE h1 h2 hz hs hb h
 refine (Q6 hE hR (v:=v) (H':=H0) ?_ hs hx ty).iP hR.base hsw
 unfold Wk
 rw [hd,qi,he,qi,hxd,qi,hi,qi,hsrc,qi]
 have e4:Nat.beq (qT (bs.map u8) 0) (Nat.mul p.1 i.size)=true:=by
  rw [jz,List.length_map,hb.len,h1,zG,beq_iff_eq];exact (Nat.mul_one _).symm
 rw [e4,qI]
 exact h0
end
end
noncomputable section
variable [Unk]
def u8s (s:ByteArray):List zd:=mapA u8 (ZW s)
theorem u8s_conc (β:Inj) (s:ByteArray):zq β (u8s s)=s.data.toList.map fun b=>Value.int .u8 b.toNat:=by
 have h:=Xw (ZW s) (UI s) β
 rw [VW]at h
 have:=congrArg Array.toList h
 simpa [u8s] using this.symm
theorem u8s_length (s:ByteArray):(u8s s).length=s.size:=by
 have:=congrArg List.length (u8s_conc (fun _=>none) s)
 rw [zK,List.length_map,List.length_map]at this
 exact this
theorem u8s_ok (s:ByteArray):∀ v∈u8s s,kn v=true:=by
 intro v hv
 simp only [u8s,jA,List.mem_map]at hv
 obtain ⟨b,_,rfl⟩:=hv
 rfl
theorem u8s_get (β:Inj) (s:ByteArray) (j:Nat):(zq β (u8s s))[j]? = (s.data[j]?).map fun b=>Value.int .u8 b.toNat:=by
 rw [u8s_conc,List.getElem?_map,Array.getElem?_toList]
theorem u8s_append (s t:ByteArray):u8s (s++t)=u8s s++u8s t:=by
 simp [u8s,ZW]
theorem mu {P:Program}{β:Inj}{H:Heap}{w:World} (hR:Rel P β H w) {b:Nat}{t:TypeId}{v:zd} (h:H.blk.get b=some (.text t v)) (hb:(β b).isSome) {s:ByteArray} (hs:zh β v = .string s) :
  (loadCells (β.addr b 0) s.size).run P w = .ok (zq β (u8s s)).toArray w:=by
 obtain ⟨arr,fz,h1,h2⟩:=hR.ff h hb
 have:=run_loadCells_list (P:=P) (w:=w) (β.addr b 0) (zq β (u8s s)) (by
  intro j x hj
  rw [u8s_get]at hj
  cases hd:s.data[j]? with
  | none=>rw [hd]at hj;cases hj
  | some c=>
   rw [hd]at hj
   cases hj
   have h3:=h2.cell j c (by rw [hs];exact hd)
   rw [Inj.jf,Inj.addr,cell_of h1,Nat.zero_add]
   exact h3)
 rw [zK,List.length_map,u8s_length,← zK]at this
 exact this
theorem WX:∀ {cs:List zd}{l:List Nat},yJ cs=some l→cs=l.map (fun n=>.int .u8 (.ofNat n))∧∀ b∈l,b<256
 | [],l,h=>by
  have h:some ([]:List Nat)=some l:=h
  cases h;exact ⟨rfl,by simp⟩
 | v::cs,l,h=>by
  have h:(bnd (Xi v) fun b=>bnd (yJ cs) fun m=>some (b::m))=some l:=(Qf Xi v cs).symm.trans h
  obtain ⟨b,hb,h⟩:=zf h
  obtain ⟨m,hm,h⟩:=zf h
  cases h
  obtain ⟨p,hp,hb⟩:=zf hb
  have:=qU hp
  subst this
  obtain ⟨hu,hb⟩:=zl hb
  obtain ⟨n,hn,hb⟩:=qP hb
  obtain ⟨hl,hb⟩:=zl hb
  cases hb
  rw [qo,decide_eq_true_eq]at hl
  obtain ⟨e1,e2⟩:=WX hm
  refine ⟨by rw [List.map_cons,JS hu,hn,e1],fun x hx=>?_⟩
  rcases List.mem_cons.1 hx with rfl | hx
  ·exact hl
  ·exact e2 x hx
theorem WL {v:zd} (h:Y0 v=true):v = .str []:=by
 have h:zt (qR v) false (fun s=>lC s true fun _ _=>false)=true:=h
 cases hv:qR v with
 | none=>rw [hv]at h;cases h
 | some s=>
  rw [hv,zg]at h
  cases s with
  | nil=>exact qw hv
  | cons a l=>cases h
theorem tP:str [] = .empty:=rfl
theorem empty_append (s:ByteArray):ByteArray.empty++s=s:=by simp
theorem pN {H:Heap}{q:Sl}{l:List Nat} (h:pkL H q=some l):(∀ b∈l,b<256)∧l.length=q.len∧H.jM q.b q.off q.len=some (l.map u8):=by
 unfold pkL at h
 obtain ⟨b,hb,h⟩:=zf h
 obtain ⟨k,hk,h⟩:=zf h
 obtain ⟨hle,h⟩:=zl h
 rw [z7]at h
 cases h
 have hp:pvS H q=some (q.len,Qy k.N q.off q.len):=by
  unfold pvS
  rw [hb,qi,hk,zg,hle,qI]
 obtain ⟨_,bs,h1,h2⟩:=fH hp
 have:bs=unpL q.len (Qy k.N q.off q.len):=by
  refine List.ext_getElem? fun i=>?_
  by_cases hi:i<q.len
  ·rw [h1.at_ i hi,unpL_get hi]
  ·rw [List.getElem?_eq_none (by rw [h1.len];omega),List.getElem?_eq_none (by rw [unpL_length];omega)]
 rw [this]at h2
 exact ⟨unpL_lt _ _,unpL_length _ _,h2⟩
theorem UG {E:Env}{β:Inj} (hF:qd E β) {H:Heap}{s:Sl}{v:zd}
  (h:(zt (pkL H s) (ifB (Nat.beq s.len 0) (some (.str [])) (bnd (H.jM s.b s.off s.len) fun cs=>zt (yJ cs) (findF (lA cs) E.facts) fun l=>some (.str l))) fun l=>some (.str l))=some v) :
  (s.len=0∧v = .str [])∨∃ cs,H.jM s.b s.off s.len=some cs∧∃ u,WF β v∧zh β v = .string u∧zq β cs=u.data.toList.map fun b=>Value.int .u8 b.toNat:=by
 cases hq:pkL H s with
 | some l=>
  rw [hq,zg]at h
  cases h
  obtain ⟨e1,_,e3⟩:=pN hq
  refine .inr ⟨_,e3,str l,e1,rfl,?_⟩
  have:=congrArg Array.toList (Xw l e1 β)
  rw [Array.toList_map]at this
  rw [this,jA]
 | none=>
  rw [hq,zm,zu]at h
  split at h
  ·rename_i h0
   rw [zG,beq_iff_eq]at h0
   cases h
   exact .inl ⟨h0,rfl⟩
  ·obtain ⟨cs,hl,h⟩:=zf h
   refine .inr ⟨cs,hl,?_⟩
   cases hb:yJ cs with
   | some l=>
    rw [hb,zg]at h
    cases h
    obtain ⟨e1,e2⟩:=WX hb
    refine ⟨str l,e2,rfl,?_⟩
    have:=Xw l e2 β
    have:=congrArg Array.toList this
    rw [Array.toList_map]at this
    rw [this,e1,jA]
    rfl
   | none=>
    rw [hb,zm]at h
    obtain ⟨f,hf,e⟩:=qh h
    have:=rM e
    subst this
    obtain ⟨g1,g2,u,g3,g4⟩:=hF _ hf
    exact ⟨u,g2,g3,g4⟩
section
variable {E:Env} (hE:jU E)
include hE
theorem Qw {β:Inj} (hF:qd E β) {H:Heap}{w:World} (hR:Rel E.P β H w) {x v:zd} (h:Qx E H x=some v) (hx:WF β x) :
  WF β v∧∃ s,zh β v = .string s∧(Builtin.lenOf (zh β x)).run E.P w = .ok s.size w∧∀ w',Alike w w'→(Builtin.firstCells 1 s.size (zh β x)).run E.P w' = .ok (zq β (u8s s)).toArray w':=by
 have _:=hE
 unfold Qx at h
 cases h1:yL x with
 | some p=>
  rw [h1,zg]at h
  have:=ZD h1
  subst this
  replace h:=zf h
  obtain ⟨b,hb,h⟩:=h
  replace h:=zf h
  obtain ⟨q,hq,h⟩:=h
  have:=Wf hq
  subst this
  replace h:=zl h
  obtain ⟨hv,h⟩:=h
  cases h
  have hv:=zX _ _ hv
  obtain ⟨a1,a2,s,a3,a4⟩:=hx
  refine ⟨a2,s,a3,by simp [Builtin.lenOf,zh,a3,sOf],fun w' hA=>?_⟩
  have:=mu (hR.alike hA) hb a1 (by rw [hv];exact a3)
  simp [Builtin.firstCells,zh,this]
 | none=>
  rw [h1,zm]at h
  cases h2:jN x with
  | some s=>
   rw [h2,zg]at h
   have:=jo h2
   subst this
   rcases UG hF h with ⟨h0,rfl⟩ | ⟨cs,hl,key⟩
   ·refine ⟨by simp [WF],.empty,rfl,by simp [Builtin.lenOf,zh,h0],fun w' _=>?_⟩
    have:(zq β (u8s ByteArray.empty)).toArray = #[]:=rfl
    rw [this]
    simp [Builtin.firstCells,zh,loadCells,loadCellsFrom]
   ·obtain ⟨u,k1,k2,k3⟩:=key
    obtain ⟨g1,g2,g3⟩:=hR.jM hl hx.1
    have hlen:u.size=s.len:=by
     have:=congrArg List.length k3
     rw [zK,List.length_map,List.length_map,g1]at this
     exact this.symm
    refine ⟨k1,u,k2,by simp [Builtin.lenOf,zh,hlen],fun w' hA=>?_⟩
    have:=((hR.alike hA).jM hl hx.1).2.2
    rw [u8s_conc,← k3]
    simp [Builtin.firstCells,zh,hlen,this]
  | none=>
   rw [h2,zm,zu]at h
   split at h
   ·rename_i h3
    have:=je h3
    subst this
    cases h
    refine ⟨by simp [WF],.empty,rfl,by simp [Builtin.lenOf,zh],fun w' _=>?_⟩
    have:(zq β (u8s ByteArray.empty)).toArray = #[]:=rfl
    rw [this]
    simp [Builtin.firstCells,zh]
   ·have key:v=x∧∃ s,zh β x = .string s:=by
     rw [zu]at h
     split at h
     ·replace h:=zf h
      obtain ⟨r,hr,h⟩:=h
      cases h
      obtain ⟨f,hf,e⟩:=qh hr
      have:=JO e
      subst this
      obtain ⟨_,_,s,e1,_⟩:=hF _ hf
      exact ⟨rfl,s,e1⟩
     ·replace h:=zf h
      obtain ⟨s,hs,h⟩:=h
      cases h
      have:=qw hs
      exact ⟨rfl,str s,by rw [this];rfl⟩
    obtain ⟨rfl,s,hs⟩:=key
    refine ⟨hx,s,hs,by simp [Builtin.lenOf,hs],fun w' _=>?_⟩
    have e:s.extract 0 s.size=s:=by simp
    rw [u8s_conc]
    simp only [Builtin.firstCells,hs,e,Sem.run_pure]
    congr 1
    apply Array.toList_inj.1
    simp
theorem eP {β:Inj}{a b c:zd}{s t:ByteArray} (h:jw E.P E.zW β (.bin .add a b c)) (ha:zh β a = .string s) (hb:zh β b = .string t):WF β c∧zh β c = .string (s++t):=by
 have _:=hE
 obtain ⟨_,_,h3,_,h5⟩:=h
 refine ⟨h3,?_⟩
 have h6:(Op.stringOp .add s t).run E.P default = .ok (zh β c) default:=by
  have:=h5 0 default
  rw [ha,hb]at this
  exact this
 simp only [Op.stringOp]at h6
 split at h6
 ·cases h6
 ·exact (Result.ok.inj h6).1.symm
theorem gV {β:Inj} (hF:qd E β) {a b c:zd}{s t:ByteArray} (h:vg E a b=some c) (wa:WF β a) (wb:WF β b) (ha:zh β a = .string s) (hb:zh β b = .string t):WF β c∧zh β c = .string (s++t):=by
 unfold vg at h
 rw [zu]at h
 split at h
 ·rename_i h0
  have:=WL h0
  subst this
  cases h
  cases ha
  exact ⟨wb,by rw [hb,tP,empty_append]⟩
 ·have fact:∀ {c:zd},findF (Kf .add a b) E.facts=some c→WF β c∧zh β c = .string (s++t):=by
   intro c h
   obtain ⟨f,hf,e⟩:=qh h
   exact eP hE (show jw E.P E.zW β (.bin .add a b c) from JP e (hF _ hf)) ha hb
  cases h1:qR a with
  | none=>rw [h1,zm]at h;exact fact h
  | some l=>
   rw [h1,zg]at h
   cases h2:qR b with
   | none=>rw [h2,zm]at h;exact fact h
   | some m=>
    rw [h2,zg]at h
    cases h
    have e1:=qw h1
    have e2:=qw h2
    subst e1 e2
    cases ha
    cases hb
    refine ⟨fun x hx=>?_,by rw [zh,qy,VQ]⟩
    rw [qy]at hx
    rcases List.mem_append.1 hx with hx | hx
    ·exact wa x hx
    ·exact wb x hx
theorem Ws {β:Inj} (hF:qd E β) {v:zd}{s:ByteArray} (h:cO E v=true) (hv:zh β v = .string s):0<s.size:=by
 have _:=hE
 unfold cO at h
 cases h1:qR v with
 | some l=>
  rw [h1,zg]at h
  have:=qw h1
  subst this
  cases hv
  cases l with
  | nil=>cases h
  | cons a l=>rw [qK];exact Nat.succ_pos _
 | none=>
  rw [h1,zm]at h
  cases h2:findF (mEq 2 v (.str [])) E.facts with
  | none=>rw [h2]at h;cases h
  | some r=>
   rw [h2,zg,qY]at h
   obtain ⟨f,hf,e⟩:=qh h2
   have:=gg e
   subst this
   obtain ⟨_,_,h3⟩:=hF _ hf
   rcases h3 with ⟨h3,_⟩ | ⟨_,s',t',e1,e2,e3⟩ | ⟨h3,_⟩
   ·cases h3
   rotate_left
   ·cases h3
   ·rw [hv]at e1
    cases e1
    cases e2
    subst e3
    have hne:s≠str []:=by simpa using h
    rcases Nat.eq_zero_or_pos s.size with h0 | h0
    ·exfalso
     apply hne
     obtain ⟨⟨d⟩⟩:=s
     have:d.length=0:=h0
     rw [List.length_eq_zero_iff]at this
     subst this
     rfl
    ·exact h0
theorem aQ {β:Inj} (hF:qd E β) {v:zd}{s:ByteArray} (h:aR E v=true) (hv:zh β v = .string s):s.size≤1000000000:=by
 have _:=hE
 unfold aR at h
 cases h1:qR v with
 | some l=>
  rw [h1,zg,zN,decide_eq_true_eq,jz]at h
  have:=qw h1
  subst this
  cases hv
  rw [qK];exact h
 | none=>
  rw [h1,zm]at h
  cases h2:findF (Uj v) E.facts with
  | none=>rw [h2]at h;cases h
  | some l=>
   rw [h2,zg]at h
   obtain ⟨f,hf,e⟩:=qh h2
   have:=JO e
   subst this
   obtain ⟨_,_,s',e1,e2⟩:=hF _ hf
   rw [hv]at e1
   cases e1
   cases h3:asInt l with
   | some p=>
    rw [h3,zg,qY,Yp]at h
    have:=qU h3
    subst this
    simp only [zh]at e2
    injection e2 with _ e2
    have h:¬ ((Int.ofNat 1000000000)<p.2):=by simpa using h
    rw [e2]at h
    have h:¬ ((1000000000:Int)<(s.size:Int)):=h
    omega
   | none=>
    rw [h3,zm]at h
    cases h4:findF (Kf .gtr l (.int .i64 (.ofNat 1000000000))) E.facts with
    | none=>rw [h4]at h;cases h
    | some r=>
     rw [h4,zg]at h
     obtain ⟨f,hf,e⟩:=qh h4
     obtain ⟨_,_,_,_,h5⟩:=JP e (hF _ hf)
     have h5:=h5 0 default
     rw [e2]at h5
     cases h6:asBool r with
     | none=>rw [h6]at h;cases h
     | some b=>
      rw [h6,zg,qY]at h
      have:=yx h6
      subst this
      have h5:(Go.binOp .gtr 0 (.int .i64 (s.size:Nat)) (.int .i64 1000000000)).run E.P default = .ok (.bool b) default:=h5
      simp [Go.binOp,Op.intCmp]at h5
      have hb:b=false:=by simpa using h
      rw [hb]at h5
      have h5:=of_decide_eq_false h5
      omega
theorem Rel.newText {P:Program}{β:Inj}{H:Heap}{w:World} (hR:Rel P β H w) {e:TypeId}{c:zd}{s:ByteArray}{extra:List Value} (hwf:WF β c) (hc:zh β c = .string s) (ht:jC P e=1) (fz:Nat×Nat)
  (hf:∀ i,i<s.size+extra.length→¬ (fz.1≤i∧i<fz.2)) :
  Rel P (β.put H.next (w.heap.size,0,s.size+extra.length)) ⟨H.blk.set H.next (.text e c),H.next+1⟩ (push w (.cells (zq β (u8s s)++extra).toArray e fz)) ∧
  Ext β H w (β.put H.next (w.heap.size,0,s.size+extra.length)) ⟨H.blk.set H.next (.text e c),H.next+1⟩ (push w (.cells (zq β (u8s s)++extra).toArray e fz)):=by
 have _:=hE
 have hl:(zq β (u8s s)).length=s.size:=by rw [zK,List.length_map,u8s_length]
 refine hR.add _ _ _ ⟨_,fz,j6 _ _,Zf.mono ⟨hwf,⟨s,hc,Nat.le_add_right _ _⟩,?_,?_,?_,ht⟩ (Inj.j4 (hR.fresh (Nat.le_refl _)))⟩
 ·simp [hl]
 ·intro i b hb
  rw [hc]at hb
  have hlt:=(Array.getElem?_eq_some_iff.1 hb).1
  have hlt:i<s.size:=hlt
  rw [Nat.zero_add,List.getElem?_toArray,List.getElem?_append_left (by rw [hl];exact hlt),u8s_get]
  have hb:s.data[i]? = some b:=hb
  rw [hb];rfl
 ·intro i hi
  exact hf i (by simpa [hl] using hi)
theorem Vj {β:Inj}{H:Heap}{c:zd}{s:ByteArray}{x:Nat×Nat×Nat} (hwf:WF β c) (hc:zh β c = .string s) (hf:β H.next=none) (hx:s.size≤x.2.2) :
  WF (β.put H.next x) (.osl H.next c)∧zh (β.put H.next x) (.osl H.next c) = .slice (some ⟨x.1,x.2.1,none⟩) s.size x.2.2:=by
 have _:=hE
 obtain ⟨a1,a2⟩:=WF.mono (Inj.j4 (x:=x) hf) _ hwf
 have e:(β.put H.next x) H.next=some x:=Inj.zM _ _ _
 refine ⟨⟨by rw [e];rfl,a1,s,by rw [a2];exact hc,by simp [Inj.ext,e];exact hx⟩,?_⟩
 simp only [zh,a2,hc,sOf]
 simp [Inj.addr,Inj.blk,Inj.sh,Inj.ext,e]
theorem oq {β:Inj}{H H0:Heap}{w:World} (hR0:Rel E.P β H0 w) (hE0:Ext β H w β H0 w) (hn:H0.next=H.next) {sT xT e:TypeId}{xd:TypeDesc}{i:TypeInfo}{base:Option Addr}{sCap:Nat}{x c:zd}{s t:ByteArray}
  (hs:E.desc sT=some (.slice e)) (hxd:E.desc xT=some xd) (hni:isInt xd=false) (hi:E.types.get e=some i) (hi1:i.size=1) (hb1:i.bytes=1) (hz:jX E e 1=true) (hts:jC E.P e=1)
  (hlen:(Builtin.lenOf (zh β x)).run E.P w = .ok t.size w) (hnew:∀ w',Alike w w'→(Builtin.firstCells 1 t.size (zh β x)).run E.P w' = .ok (zq β (u8s t)).toArray w')
  (hold:∀ w',Alike w w'→(Builtin.firstCells 1 s.size (.slice base s.size sCap)).run E.P w' = .ok (zq β (u8s s)).toArray w')
  (hwc:WF β c) (hc:zh β c = .string (s++t)) (hroom:(s++t).size≤1000000000) (hcap:sCap<s.size+t.size) (ty:TypeId) :
  Sim E.P β H w (Builtin.append_ #[sT,xT] ty #[.slice base s.size sCap,zh β x]) (.osl H.next c) ⟨H0.blk.set H.next (.text e c),H.next+1⟩:=by
 have hst:(s++t).size=s.size+t.size:=by simp
 obtain ⟨z,hz,hzs⟩:=ZI hE hz
 obtain ⟨k,extra,k1,k2⟩:=run_append_grow hE (sLen:=s.size) (sCap:=sCap) (base:=base) (old:=u8s s) (new:=u8s t) (n:=t.size) (β:=β) (w:=w) (x:=x) hs hxd hi hz (by rw [hi1];exact hzs)
  (by rw [hb1];omega) (by omega) (Or.inl ⟨hni,hlen,by rw [hi1];exact hnew⟩) (by rw [hi1];exact hold) hcap ty
 have hA:=kN w
 rw [hi1,Nat.mul_one]at k1
 obtain ⟨r1,r2⟩:=(hR0.alike hA).newText hE (e:=e) (extra:=extra) hwc hc hts (0,0) (by simp)
 have hf:β H0.next=none:=hR0.fresh (Nat.le_refl _)
 obtain ⟨o1,o2⟩:=Vj hE (H:=H0) (x:=(w.heap.size,0,(s++t).size+extra.length)) hwc hc hf (Nat.le_add_right _ _)
 rw [hn]at r1 r2 o1 o2
 refine ⟨β.put H.next (w.heap.size,0,(s++t).size+extra.length),_,?_,o1,r1,(hE0.trans (Ext.alike hR0.bnd hA)).trans r2⟩
 rw [k2,o2,hst,k1,u8s_append]
theorem me {β:Inj}{H:Heap}{w:World} (hR:Rel E.P β H w) {sT xT e:TypeId}{xd:TypeDesc}{i:TypeInfo}{id sCap:Nat}{b0:zJ}{y:Nat×Nat×Nat}{arr:Array Value}{fz:Nat×Nat}{x c:zd}{s t:ByteArray}
  (hs:E.desc sT=some (.slice e)) (hxd:E.desc xT=some xd) (hni:isInt xd=false) (hi:E.types.get e=some i) (hi1:i.size=1) (hts:jC E.P e=1)
  (hlen:(Builtin.lenOf (zh β x)).run E.P w = .ok t.size w) (hnew:∀ w',Alike w w'→(Builtin.firstCells 1 t.size (zh β x)).run E.P w' = .ok (zq β (u8s t)).toArray w')
  (h60:100≤id) (hb:H.blk.get id=some b0) (hy:β id=some y) (harr:w.heap[y.1]? = some (.cells arr e fz)) (hthaw:∀ i,i<arr.size→¬ (fz.1≤i∧i<fz.2)) (hsize:y.2.1+sCap≤arr.size)
  (hcell:∀ j (b:UInt8),s.data[j]? = some b→arr[y.2.1+j]? = some (.int .u8 b.toNat))
  (hwc:WF β c) (hc:zh β c = .string (s++t)) (hge:s.size+t.size≤sCap) (ty:TypeId) :
  Sim E.P β H w (Builtin.append_ #[sT,xT] ty #[.slice (some ⟨y.1,y.2.1,none⟩) s.size sCap,zh β x]) (.osl H.next c) ⟨(H.blk.del id).set H.next (.text e c),H.next+1⟩:=by
 have hst:(s++t).size=s.size+t.size:=by simp
 have hlt:(zq β (u8s t)).length=t.size:=by rw [zK,List.length_map,u8s_length]
 obtain ⟨w',arr',s1,s2,s3,s4,s5⟩:=Yd (P:=E.P) y.1 (y.2.1+s.size) e fz (zq β (u8s t)) 0 w arr harr hthaw
  (by rw [hlt];omega) (by
   intro u hu
   rw [zK]at hu
   obtain ⟨v,hv,rfl⟩:=List.mem_map.1 hu
   exact XW (u8s_ok t v hv))
 have hf:β H.next=none:=hR.fresh (Nat.le_refl _)
 have hcl:∀ j (b:UInt8),(sOf (zh β c)).data[j]? = some b→arr'[y.2.1+j]? = some (.int .u8 b.toNat):=by
  intro j b hb
  rw [hc]at hb
  have hb:(s++t).data[j]? = some b:=hb
  rw [s5,hlt]
  have hd:(s++t).data=s.data++t.data:=by simp
  rw [hd,Array.getElem?_append]at hb
  have hss:s.data.size=s.size:=rfl
  split at hb
  ·rename_i hj
   rw [if_neg (by omega)]
   exact hcell j b hb
  ·rename_i hj
   have h2:=(Array.getElem?_eq_some_iff.1 hb).1
   have h2:j-s.data.size<t.size:=h2
   rw [if_pos (by omega),u8s_get,show y.2.1+j-(y.2.1+s.size+0)=j-s.data.size from by omega,hb]
   rfl
 obtain ⟨r1,r2⟩:=hR.rename (b':=.text e c) (y:=(y.1,y.2.1,sCap)) h60 hb hy rfl s3 ⟨arr',fz,s2,Zf.mono ⟨hwc,⟨s++t,hc,by rw [hst];exact hge⟩,by rw [s4];exact hsize,hcl,by rw [s4];exact hthaw,hts⟩ (Inj.j4 hf)⟩
 ·obtain ⟨o1,o2⟩:=Vj hE (H:=H) (x:=(y.1,y.2.1,sCap)) hwc hc hf (by rw [hst];exact hge)
  refine ⟨β.put H.next (y.1,y.2.1,sCap),w',?_,o1,r1,r2⟩
  rw [o2,hst]
  have e1:(⟨y.1,y.2.1,none⟩:Addr).add (s.size*i.size)=⟨y.1,y.2.1+s.size,none⟩:=by
   rw [hi1,Nat.mul_one]
   unfold Addr.add
   by_cases h:s.size=0<;>simp [h]
  exact kz hE (w':=w') (base:=some ⟨y.1,y.2.1,none⟩) (new:=u8s t) hs hxd hi (Or.inl ⟨hni,hlen,by rw [hi1];exact hnew⟩) (by show (storeCells _ _).run _ _=_;rw [e1];exact s1) hge ty
theorem iv {β : Inj} (hF : qd E β) {H H' : Heap} {w : World} (hR : Rel E.P β H w) {sT xT e : TypeId} {xd : TypeDesc} {s x v : zd} (hd : E.desc sT = some (.slice e)) (hxd : E.desc xT = some xd) (hni : isInt xd = false)
    (h : B6 E H e s x = some (v, H')) (hs : WF β s) (hx : WF β x) (ty : TypeId) :
    Sim E.P β H w (Builtin.append_ #[sT, xT] ty #[zh β s, zh β x]) v H' := by
  replace h := zf h
  obtain ⟨ed, _, h⟩ := h
  replace h := zf h
  obtain ⟨k, _, h⟩ := h
  replace h := zf h
  obtain ⟨i, hi, h⟩ := h
  replace h := zl h
  obtain ⟨hu, h⟩ := h
  simp only [zB, Bool.and_eq_true, zG, beq_iff_eq] at hu
  obtain ⟨_, hi1, hb1, hz⟩ := hu
  have hts : jC E.P e = 1 := by
    have := (yz hE (show E.size e = some i.size by unfold Env.size; rw [hi]; rfl)).choose_spec.2.2.2
    rw [this, hi1]
  replace h := zf h
  obtain ⟨a, ha, h⟩ := h
  replace h := zf h
  obtain ⟨b, hb, h⟩ := h
  obtain ⟨wa, sa, ea, la, fa⟩ := Qw hE hF hR ha hs
  obtain ⟨wb, sb, eb, lb, fb⟩ := Qw hE hF hR hb hx
  replace h := zf h
  obtain ⟨H0, hdrop, h⟩ := h
  have empty : ∀ base sLen sCap, zh β s = .slice base sLen sCap → sLen ≤ sCap → Y0 b = true → Sim E.P β H w (Builtin.append_ #[sT, xT] ty #[zh β s, zh β x]) s H := by
    intro base sLen sCap hcs hle h0
    have := WL h0
    subst this
    have hsb : sb = .empty := by cases eb; rfl
    subst hsb
    have hmode : VH E β w e i xd x 0 [] := Or.inl ⟨hni, lb, fun w' hA => by rw [hi1]; exact fb w' hA⟩
    refine zY.sim ⟨?_, hs⟩ hR
    rw [hcs]
    exact kz hE (base := base) hd hxd hi hmode (by cases base <;> simp [zq, storeCells]) hle ty
  have rest : ∀ {r : zd × Heap}, (ifB (cO E b) (bnd (vg E a b) fun c => ifB (aR E c) (xx H0 e c) none) none) = some r → H0.next = H.next →
      ∃ c, r = (.osl H.next c, ⟨H0.blk.set H.next (.text e c), H.next + 1⟩) ∧ WF β c ∧ zh β c = .string (sa ++ sb) ∧ (sa ++ sb).size ≤ 1000000000 ∧ 0 < sb.size := by
    intro r h hn
    obtain ⟨h1, h⟩ := zl h
    obtain ⟨c, hc, h⟩ := zf h
    obtain ⟨h2, h⟩ := zl h
    cases h
    obtain ⟨c1, c2⟩ := gV hE hF hc wa wb ea eb
    exact ⟨c, by rw [← hn], c1, c2, aQ hE hF h2 c2, Ws hE hF h1 eb⟩
  have grow : ∀ {base sCap c}, zh β s = .slice base sa.size sCap → Rel E.P β H0 w → Ext β H w β H0 w → H0.next = H.next → sCap < sa.size + sb.size → WF β c → zh β c = .string (sa ++ sb) → (sa ++ sb).size ≤ 1000000000 →
      Sim E.P β H w (Builtin.append_ #[sT, xT] ty #[zh β s, zh β x]) (.osl H.next c) ⟨H0.blk.set H.next (.text e c), H.next + 1⟩ := by
    intro base sCap c hcs r1 r2 hn hcap c1 c2 c3
    have fa' := fa
    rw [hcs] at fa' ⊢
    exact oq hE r1 r2 hn hd hxd hni hi hi1 hb1 hz hts lb fb fa' c1 c2 c3 hcap ty
  unfold lT at hdrop
  cases h1 : yL s with
  | some p =>
    rw [h1, zg] at hdrop
    have := ZD h1
    subst this
    obtain ⟨w1, w2, u, hu1, hu2⟩ := hs
    replace hdrop := zf hdrop
    obtain ⟨b1, hb1', hdrop⟩ := hdrop
    replace hdrop := zf hdrop
    obtain ⟨q, hq, hdrop⟩ := hdrop
    replace hdrop := zl hdrop
    obtain ⟨h60, hdrop⟩ := hdrop
    rw [zB, Bool.and_eq_true, zN, decide_eq_true_eq, zG, beq_iff_eq] at h60
    cases hdrop
    have := Wf hq
    subst this
    have hva : a = p.2 ∧ q.2 = p.2 := by
      unfold Qx at ha
      rw [h1, zg, hb1', qi, show bW (zJ.text q.1 q.2) = some q from rfl, qi] at ha
      obtain ⟨g1, g2⟩ := zl ha
      cases g2
      exact ⟨rfl, zX _ _ g1⟩
    obtain ⟨rfl, hva⟩ := hva
    have hsa : sa = u := by rw [hu1] at ea; cases ea; rfl
    subst hsa
    have hcs : zh β (.osl p.1 p.2) = .slice (some (β.addr p.1 0)) sa.size (β.ext p.1) := by simp [zh, ea, sOf]
    rw [zu] at h
    split at h
    · rename_i h0
      cases h
      exact empty _ _ _ hcs hu2 h0
    · obtain ⟨c, hpair, c1, c2, c3, c4⟩ := rest h rfl
      cases hpair
      obtain ⟨y, hy⟩ := Option.isSome_iff_exists.1 w1
      obtain ⟨hD1, hD2⟩ := hR.del h60.1 hy
      rcases Nat.lt_or_ge (β.ext p.1) (sa.size + sb.size) with hlt | hge
      · exact grow hcs hD1 hD2 rfl hlt c1 c2 c3
      · obtain ⟨arr, fz, a1, a2⟩ := hR.ff hb1' w1
        have e1 : β.blk p.1 = y.1 := by simp [Inj.blk, hy]
        have e2 : β.sh p.1 = y.2.1 := by simp [Inj.sh, hy]
        have e3 : β.addr p.1 0 = ⟨y.1, y.2.1, none⟩ := by simp [Inj.addr, e1, e2]
        rw [hcs, e3]
        refine me hE hR hd hxd hni hi hi1 hts lb fb h60.1 hb1' hy (arr := arr) (fz := fz) (by rw [← e1, ← h60.2]; exact a1) a2.thaw (by rw [← e2]; exact a2.size) (fun j b hjb => ?_) c1 c2 hge ty
        rw [← e2]
        exact a2.cell j b (by rw [hva, ea]; exact hjb)
  | none =>
    rw [h1, zm] at hdrop
    cases h2 : jN s with
    | none =>
      rw [h2, zm] at hdrop
      replace hdrop := zl hdrop
      obtain ⟨h3, hdrop⟩ := hdrop
      cases hdrop
      have := je h3
      subst this
      have hsa : sa = .empty := by
        have : a = .str [] := by
          have ha : (some (zd.str []) : Option zd) = some a := ha
          cases ha; rfl
        subst this
        cases ea; rfl
      subst hsa
      rw [zu] at h
      split at h
      · rename_i h0
        cases h
        exact empty none 0 0 rfl (Nat.le_refl _) h0
      · obtain ⟨c, hpair, c1, c2, c3, c4⟩ := rest h rfl
        cases hpair
        exact grow (base := none) (sCap := 0) rfl hR (.refl _ _ _ hR.bnd) rfl (by omega) c1 c2 c3
    | some q =>
      rw [h2, zg, zu] at hdrop
      have := jo h2
      subst this
      have hlq : sa.size = q.len := by
        have : (Builtin.lenOf (zh β (.slice q.b q.off q.len q.cap q.ex))).run E.P w = .ok q.len w := by simp [Builtin.lenOf, zh]
        rw [this] at la
        exact (Result.ok.inj la).1.symm
      split at hdrop
      · rename_i hex
        replace hdrop := zl hdrop
        obtain ⟨h3, hdrop⟩ := hdrop
        rw [zG, beq_iff_eq] at h3
        cases hdrop
        have hcs : zh β (.slice q.b q.off q.len q.cap q.ex) = .slice (some (β.addr q.b q.off)) sa.size q.cap := by simp [zh, hex, hlq]
        rw [zu] at h
        split at h
        · rename_i h0
          cases h
          exact empty _ _ _ hcs (by omega) h0
        · obtain ⟨c, hpair, c1, c2, c3, c4⟩ := rest h rfl
          cases hpair
          exact grow hcs hR (.refl _ _ _ hR.bnd) rfl (by omega) c1 c2 c3
      · rename_i hex
        replace hdrop := zf hdrop
        obtain ⟨r, hr, hdrop⟩ := hdrop
        replace hdrop := zl hdrop
        obtain ⟨h3, hdrop⟩ := hdrop
        rw [zB, Bool.and_eq_true, zB, Bool.and_eq_true, zB, Bool.and_eq_true, zN, decide_eq_true_eq, zG, beq_iff_eq, zG, beq_iff_eq, zG, beq_iff_eq] at h3
        obtain ⟨h60, hrt, hoff, hcapn⟩ := h3
        cases hdrop
        have hcs : zh β (.slice q.b q.off q.len q.cap q.ex) = .slice (some (β.addr q.b q.off)) sa.size (q.cap + β.ext q.b) := by
          simp only [zh, hlq]
          rw [if_neg hex]
        have hle := hs.2
        rw [zu] at h
        split at h
        · rename_i h0
          cases h
          exact empty _ _ _ hcs (by omega) h0
        · obtain ⟨c, hpair, c1, c2, c3, c4⟩ := rest h rfl
          cases hpair
          obtain ⟨y, hy⟩ := Option.isSome_iff_exists.1 hs.1
          obtain ⟨hD1, hD2⟩ := hR.del h60 hy
          rcases Nat.lt_or_ge (q.cap + β.ext q.b) (sa.size + sb.size) with hlt | hge
          · exact grow hcs hD1 hD2 rfl hlt c1 c2 c3
          · obtain ⟨arr, fz, a1, a2⟩ := hR.rowAt hr hs.1
            have e1 : β.blk q.b = y.1 := by simp [Inj.blk, hy]
            have e2 : β.sh q.b = y.2.1 := by simp [Inj.sh, hy]
            have e3 : β.addr q.b q.off = ⟨y.1, y.2.1, none⟩ := by rw [hoff]; simp [Inj.addr, e1, e2]
            have hsz := a2.size
            rw [hrt, hts] at hsz
            have hA := fa w (alike_refl w)
            rw [hcs, e3] at hA
            rw [hcs, e3]
            obtain ⟨b0, hb0, _⟩ := QC hr
            refine me hE hR hd hxd hni hi hi1 hts lb fb h60 hb0 hy (arr := arr) (fz := fz) (by rw [← e1, ← hrt]; exact a1) a2.thaw (by rw [← e2]; omega) (fun j b hjb => ?_) c1 c2 hge ty
            have hcells : (loadCells ⟨y.1, y.2.1, none⟩ sa.size).run E.P w = .ok (zq β (u8s sa)).toArray w := by simpa [Builtin.firstCells] using hA
            have hj := (Array.getElem?_eq_some_iff.1 hjb).1
            have hj : j < sa.size := hj
            have e1' : w.heap[y.1]? = some (.cells arr e fz) := by rw [← e1, ← hrt]; exact a1
            have hl := run_loadCells (P := E.P) w ⟨y.1, y.2.1, none⟩ sa.size (fun k => arr.getD (y.2.1 + k) undef) (fun k hk => by
              have : (⟨y.1, y.2.1, none⟩ : Addr).add k = ⟨y.1, y.2.1 + k, none⟩ := by
                unfold Addr.add
                by_cases h : k = 0 <;> simp [h]
              rw [this, cell_of e1']
              have hlt : y.2.1 + k < arr.size := by rw [← e2]; omega
              rw [Array.getElem?_eq_getElem hlt, Array.getD_eq_getD_getElem?, Array.getElem?_eq_getElem hlt]
              rfl)
            rw [hcells] at hl
            have hl := congrArg Array.toList (Result.ok.inj hl).1
            simp only at hl
            have hl := congrArg (fun l : List Value => l[j]?) hl
            simp only [u8s_get, hjb, Option.map_some, List.getElem?_map, List.getElem?_range hj] at hl
            have hlt : y.2.1 + j < arr.size := by rw [← e2]; omega
            rw [Array.getElem?_eq_getElem hlt]
            rw [Array.getD_eq_getD_getElem?, Array.getElem?_eq_getElem hlt] at hl
            exact hl.symm
def Ul (s:ByteArray):List zd:=mapA (fun b=>.int .i64 (.ofNat b)) (ZW s)
omit hE in
theorem U6 (β:Inj) (s:ByteArray):zq β (Ul s)=s.data.toList.map fun b=>Value.int .i64 b.toNat:=by
 rw [zK]
 unfold Ul ZW
 rw [jA,jA,List.map_map,List.map_map]
 rfl
omit hE in
theorem WN (s:ByteArray):(Ul s).length=s.size:=by
 have:=congrArg List.length (U6 (fun _=>none) s)
 rw [zK,List.length_map,List.length_map]at this
 exact this
omit hE in
theorem dW (β:Inj) (s:ByteArray) (j:Nat):(zq β (Ul s))[j]? = (s.data[j]?).map fun b=>Value.int .i64 b.toNat:=by
 rw [U6,List.getElem?_map,Array.getElem?_toList]
omit hE in
theorem om {b:zJ}{q:TypeId×zd} (h:tg b=some q):b = .ints q.1 q.2:=by cases b<;>cases h;rfl
omit hE in
theorem nI {P:Program}{β:Inj}{H:Heap}{w:World} (hR:Rel P β H w) {b:Nat}{t:TypeId}{v:zd} (h:H.blk.get b=some (.ints t v)) (hb:(β b).isSome) {s:ByteArray} (hs:zh β v = .string s) :
  (loadCells (β.addr b 0) s.size).run P w = .ok (zq β (Ul s)).toArray w:=by
 obtain ⟨y,hy⟩:=Option.isSome_iff_exists.1 hb
 obtain ⟨arr,fz,h1,h2⟩:=hR.blk _ _ _ h hy
 have e1:β.blk b=y.1:=by simp [Inj.blk,hy]
 have e2:β.sh b=y.2.1:=by simp [Inj.sh,hy]
 have:=run_loadCells_list (P:=P) (w:=w) (β.addr b 0) (zq β (Ul s)) (by
  intro j x hj
  rw [dW]at hj
  cases hd:s.data[j]? with
  | none=>rw [hd]at hj;cases hj
  | some c=>
   rw [hd]at hj
   cases hj
   have h3:=h2.cell j c (by rw [hs];exact hd)
   rw [Inj.jf,Inj.addr,e1,e2,cell_of h1,Nat.zero_add]
   exact h3)
 rw [zK,List.length_map,WN,← zK]at this
 exact this
theorem aS {β:Inj} (hF:qd E β) {v:zd}{s:ByteArray} (h:fE E v=true) (hv:zh β v = .string s):s.size≤100000000:=by
 have _:=hE
 unfold fE at h
 cases h1:qR v with
 | some l=>
  rw [h1,zg,zN,decide_eq_true_eq,jz]at h
  have:=qw h1
  subst this
  cases hv
  rw [qK];exact h
 | none=>
  rw [h1,zm]at h
  cases h2:findF (Uj v) E.facts with
  | none=>rw [h2]at h;cases h
  | some l=>
   rw [h2,zg]at h
   obtain ⟨f,hf,e⟩:=qh h2
   have:=JO e
   subst this
   obtain ⟨_,_,s',e1,e2⟩:=hF _ hf
   rw [hv]at e1
   cases e1
   cases h4:findF (Kf .gtr l (.int .i64 (.ofNat 100000000))) E.facts with
   | none=>rw [h4]at h;cases h
   | some r=>
    rw [h4,zg]at h
    obtain ⟨f,hf,e⟩:=qh h4
    obtain ⟨_,_,_,_,h5⟩:=JP e (hF _ hf)
    have h5:=h5 0 default
    rw [e2]at h5
    cases h6:asBool r with
    | none=>rw [h6]at h;cases h
    | some b=>
     rw [h6,zg,qY]at h
     have:=yx h6
     subst this
     have h5:(Go.binOp .gtr 0 (.int .i64 (s.size:Nat)) (.int .i64 100000000)).run E.P default = .ok (.bool b) default:=h5
     simp [Go.binOp,Op.intCmp]at h5
     have hb:b=false:=by simpa using h
     rw [hb]at h5
     have h5:=of_decide_eq_false h5
     omega
theorem Rel.uk {P:Program}{β:Inj}{H:Heap}{w:World} (hR:Rel P β H w) {e:TypeId}{c:zd}{s:ByteArray}{extra:List Value} (hwf:WF β c) (hc:zh β c = .string s) (ht:jC P e=1) (fz:Nat×Nat)
  (hf:∀ i,i<s.size+extra.length→¬ (fz.1≤i∧i<fz.2)) :
  Rel P (β.put H.next (w.heap.size,0,s.size+extra.length)) ⟨H.blk.set H.next (.ints e c),H.next+1⟩ (push w (.cells (zq β (Ul s)++extra).toArray e fz)) ∧
  Ext β H w (β.put H.next (w.heap.size,0,s.size+extra.length)) ⟨H.blk.set H.next (.ints e c),H.next+1⟩ (push w (.cells (zq β (Ul s)++extra).toArray e fz)):=by
 have _:=hE
 have hl:(zq β (Ul s)).length=s.size:=by rw [zK,List.length_map,WN]
 refine hR.add _ _ _ ⟨_,fz,j6 _ _,Zf.mono ⟨hwf,⟨s,hc,Nat.le_add_right _ _⟩,?_,?_,?_,ht⟩ (Inj.j4 (hR.fresh (Nat.le_refl _)))⟩
 ·simp [hl]
 ·intro i b hb
  rw [hc]at hb
  have hlt:=(Array.getElem?_eq_some_iff.1 hb).1
  have hlt:i<s.size:=hlt
  rw [Nat.zero_add,List.getElem?_toArray,List.getElem?_append_left (by rw [hl];exact hlt),dW]
  have hb:s.data[i]? = some b:=hb
  rw [hb];rfl
 ·intro i hi
  exact hf i (by simpa [hl] using hi)
theorem iw {β:Inj} (hF:qd E β) {H H':Heap}{w:World} (hR:Rel E.P β H w) {sT xT e:TypeId}{xd:TypeDesc}{s x v:zd} (hd:E.desc sT=some (.slice e)) (hxd:E.desc xT=some xd) (hni:isInt xd=false)
  (h:DK E H e s x=some (v,H')) (hs:WF β s) (hx:WF β x) (ty:TypeId) :
  Sim E.P β H w (Builtin.append_ #[sT,xT] ty #[zh β s,zh β x]) v H':=by
 replace h:=zf h
 obtain ⟨ed,_,h⟩:=h
 replace h:=zf h
 obtain ⟨k,_,h⟩:=h
 replace h:=zf h
 obtain ⟨i,hi,h⟩:=h
 replace h:=zl h
 obtain ⟨hu,h⟩:=h
 simp only [zB,Bool.and_eq_true,zG,beq_iff_eq,zN,decide_eq_true_eq]at hu
 obtain ⟨_,hi1,hb1,hz⟩:=hu
 have hts:jC E.P e=1:=by
  have:=(yz hE (show E.size e=some i.size by unfold Env.size;rw [hi];rfl)).choose_spec.2.2.2
  rw [this,hi1]
 replace h:=zf h
 obtain ⟨q,hq,h⟩:=h
 have:=jo hq
 subst this
 replace h:=zl h
 obtain ⟨hc,h⟩:=h
 rw [zB,Bool.and_eq_true,zG,beq_iff_eq]at hc
 obtain ⟨hex,hcap⟩:=hc
 replace h:=zf h
 obtain ⟨p,hp,h⟩:=h
 have:=ZD hp
 subst this
 replace h:=zf h
 obtain ⟨b,hb,h⟩:=h
 replace h:=zf h
 obtain ⟨r,hr,h⟩:=h
 have:=om hr
 subst this
 replace h:=zl h
 obtain ⟨hv,h⟩:=h
 simp only [zB,Bool.and_eq_true]at hv
 obtain ⟨hv,hsome,hroom⟩:=hv
 have hv:=zX _ _ hv
 obtain ⟨w1,w2,t,hc,ht⟩:=hx
 have hpos:=Ws hE hF hsome hc
 have hle:=aS hE hF hroom hc
 unfold Cz at h
 simp only [z7]at h
 cases h
 obtain ⟨z,hz,hzs⟩:=ZI hE hz
 have hlen:q.len=0:=by have:=hs.2;omega
 have hcs:zh β (.slice q.b q.off q.len q.cap q.ex) = .slice (some (β.addr q.b q.off)) 0 0:=by simp [zh,hex,hcap,hlen]
 obtain ⟨k,extra,k1,k2⟩:=run_append_grow hE (sLen:=0) (sCap:=0) (base:=some (β.addr q.b q.off)) (old:=[]) (new:=Ul t) (n:=t.size) (β:=β) (w:=w) (x:=.osl p.1 p.2) hd hxd hi hz (by rw [hi1];exact hzs)
  (by have:=Nat.mul_le_mul hle hb1;rw [Nat.zero_add];omega) (by omega)
  (Or.inl ⟨hni,by simp [Builtin.lenOf,zh,hc,sOf],fun w' hA=>by
   rw [hi1]
   have:=nI (hR.alike hA) hb w1 (by rw [hv];exact hc)
   simp [Builtin.firstCells,zh,this]⟩)
  (fun w' _=>by simp [Builtin.firstCells,zq,loadCells,loadCellsFrom]) (by omega) ty
 have hA:=kN w
 rw [hi1,Nat.mul_one]at k1
 obtain ⟨r1,r2⟩:=(hR.alike hA).uk hE (e:=e) (extra:=extra) w2 hc hts (0,0) (by simp)
 have hf:β H.next=none:=hR.fresh (Nat.le_refl _)
 obtain ⟨o1,o2⟩:=Vj hE (H:=H) (x:=(w.heap.size,0,t.size+extra.length)) w2 hc hf (Nat.le_add_right _ _)
 refine ⟨β.put H.next (w.heap.size,0,t.size+extra.length),_,?_,o1,r1,(Ext.alike hR.bnd hA).trans r2⟩
 rw [hcs,k2,o2,k1]
 simp only [Nat.zero_add,List.nil_append]
theorem Ur {β:Inj} (hF:qd E β) {H H':Heap}{w:World} (hR:Rel E.P β H w) {sT xT:TypeId}{s x v:zd} (h:cv E H sT xT s x=some (v,H')) (hs:WF β s) (hx:WF β x) (ty:TypeId) :
  Sim E.P β H w (Builtin.append_ #[sT,xT] ty #[zh β s,zh β x]) v H':=by
 unfold cv at h
 rw [zu]at h
 split at h
 ·cases hp:ba E H sT xT s x with
  | some r=>
   rw [hp,zg]at h
   cases h
   exact Ug hE hR hp hs hx ty
  | none=>
   rw [hp,zm]at h
   exact K8 hE hR h hs hx ty
 ·replace h:=zf h
  obtain ⟨d,hd,h⟩:=h
  replace h:=zf h
  obtain ⟨e,he,h⟩:=h
  replace h:=zf h
  obtain ⟨xd,hxd,h⟩:=h
  replace h:=kg h
  obtain ⟨hni,h⟩:=h
  have:=jk he
  subst this
  cases hT:B6 E H e s x with
  | some r=>
   rw [hT,zg]at h
   cases h
   exact iv hE hF hR hd hxd hni hT hs hx ty
  | none=>
   rw [hT,zm]at h
   exact iw hE hF hR hd hxd hni h hs hx ty
end
end
section
variable [Unk]
theorem Sim.pY {P : Program} {β : Inj} {H H' : Heap} {w w' : World} {m : Sem Value} {v : zd} (h : m.run P w = .ok (zh β v) w') (hv : WF β v) (hR : Rel P β H' w') (hE : Ext β H w β H' w') :
    Sim P β H w m v H' := ⟨β, w', h, hv, hR, hE⟩
section
variable {E:Env} (hE:jU E)
include hE
theorem eR {β:Inj}{H H':Heap}{w:World} (hR:Rel E.P β H w) {dT:TypeId}{d x v:zd} (h:wD E H dT d x=some (v,H')) (hd:WF β d) (hx:WF β x) (ts:Array TypeId) (ht:ts[0]? = some dT) (ty:TypeId) :
  Sim E.P β H w (Builtin.copy_ ts ty #[zh β d,zh β x]) v H':=by
 replace h:=zf h
 obtain ⟨t,ht',h⟩:=h
 replace h:=zf h
 obtain ⟨e,he,h⟩:=h
 have:=jk he
 subst this
 replace h:=zf h
 obtain ⟨sz,hsz,h⟩:=h
 replace h:=zf h
 obtain ⟨p,hp,h⟩:=h
 replace h:=zl h
 obtain ⟨hpl,h⟩:=h
 rw [zG,jz,beq_iff_eq]at hpl
 have hpl:p.2.length=p.1*sz:=hpl
 obtain ⟨g1,g2,g3,g4⟩:=Xz hE hR hp hx
 have hmin:∀ a b,nr a b=Nat.min a b:=by
  intro a b
  unfold nr
  rw [zu,zN]
  by_cases h:a≤b
  ·rw [if_pos (by simp [h])];exact (Nat.min_eq_left h).symm
  ·rw [if_neg (by simp [h])];exact (Nat.min_eq_right (by omega)).symm
 cases h1:jN d with
 | none=>
  rw [h1,zm]at h
  replace h:=zl h
  obtain ⟨h2,h⟩:=h
  have:=je h2
  subst this
  cases h
  refine zY.sim ⟨?_,trivial⟩ hR
  unfold Builtin.copy_
  have e0:=g4 (Nat.min p.1 0) (Nat.min_le_left _ _) hpl
  simp only [ht,List.getElem?_toArray,List.getElem?_cons_zero,List.getElem?_cons_succ,Sem.run_bind,zr hE ht',Result.andThen_ok,zh,g1,qk hE hsz,e0]
  simp [goInt,zh]
 | some q=>
  have:=jo h1
  subst this
  rw [h1,zg]at h
  replace h:=zf h
  obtain ⟨H1,hst,h⟩:=h
  cases h
  rw [YG]at hst
  have hw:WFs β (p.2.take (nr p.1 q.len*sz)):=by
   rw [jb]at *
   intro v hv
   exact g3 v (List.mem_of_mem_take hv)
  obtain ⟨w',s1,s2,s3⟩:=hR.Zq hst hd.1 hw
  have s1:(storeCells (β.addr q.b q.off) (zq β (p.2.take (nr p.1 q.len*sz)))).run E.P w = .ok () w':=s1
  refine Sim.pY ?_ (by simp [WF]) s2 s3
  unfold Builtin.copy_
  have e0:=g4 (Nat.min p.1 q.len) (Nat.min_le_left _ _) hpl
  rw [← hmin]at e0
  simp only [ht,List.getElem?_toArray,List.getElem?_cons_zero,List.getElem?_cons_succ,Sem.run_bind,zr hE ht',Result.andThen_ok,zh,g1,qk hE hsz,← hmin,e0,s1]
  simp [goInt,zh]
theorem cu {β:Inj}{H H':Heap}{w:World} (hR:Rel E.P β H w) {t:TypeId}{x v:zd} (h:tq E H t x=some (v,H')) (hx:WF β x) (ts:Array TypeId) (ht:ts[0]? = some t) (ty:TypeId) :
  Sim E.P β H w (Builtin.clear_ ts ty #[zh β x]) v H':=by
 replace h:=zf h
 obtain ⟨d,hd,h⟩:=h
 replace h:=zf h
 obtain ⟨e,he,h⟩:=h
 have:=jk he
 subst this
 cases h1:jN x with
 | none=>
  rw [h1,zm]at h
  replace h:=zl h
  obtain ⟨h2,h⟩:=h
  have:=je h2
  subst this
  cases h
  refine zY.sim ⟨?_,by simp⟩ hR
  unfold Builtin.clear_
  simp [ht,zr hE hd,zh,undef]
 | some q=>
  have:=jo h1
  subst this
  rw [h1,zg]at h
  cases hl:q.len with
  | zero=>
   rw [hl,XZ]at h
   cases h
   refine zY.sim ⟨?_,by simp⟩ hR
   unfold Builtin.clear_
   simp [ht,zr hE hd,zh,undef]
  | succ n=>
   rw [hl,JM]at h
   replace h:=zf h
   obtain ⟨z,hz,h⟩:=h
   replace h:=zf h
   obtain ⟨H1,hst,h⟩:=h
   cases h
   obtain ⟨z1,z2⟩:=jL hE hz β w
   obtain ⟨w',s1,s2,s3⟩:=hR.Zq hst hx.1 (XO (jm z2) _)
   refine Sim.pY ?_ (by simp) s2 s3
   have e0:Builtin.zeroCells (zh β z).cells (n+1)=(zq β (yY (zP z) (n+1))).toArray:=by
    unfold Builtin.zeroCells
    have:=Zi (β:=β) (zP z) (zP z).length (n+1) rfl (zh β z).cells (fun _=>qM β z)
    rw [show (zh β z).cells.size=(zP z).length by rw [qM,zK];simp]
    rw [show (zh β z).cells.size=(zP z).length by rw [qM,zK];simp]at this
    exact this
   unfold Builtin.clear_
   simp only [ht,List.getElem?_toArray,List.getElem?_cons_zero,Sem.run_bind,zr hE hd,Result.andThen_ok,zh,z1,e0,s1]
   simp [zh,qN,zq]
theorem Un {β:Inj}{w:World}{src dst:TypeId}{sd:TypeDesc}{k:IntKind}{x:zd}{i:Int} (hs:E.desc src=some sd) (hd:E.desc dst=some (.int k)) (hx:Jy x=some i) :
  zY E.P β w (Go.convert src dst (zh β x)) (mkInt k (Jx k i)):=by
 obtain ⟨j,rfl⟩:=ZE hx
 refine ⟨?_,by simp [WF]⟩
 unfold Go.convert
 simp [zr hE hs,zr hE hd,zh,Conv.intToInt,yK]
omit hE in
theorem WS (w:World) (arr:Array Value) (t:TypeId) :
  (push w (.cells arr t)).freeze ⟨w.heap.size,arr.size,none⟩ 1=push w (.cells arr t (arr.size,arr.size+1)):=by
 unfold World.freeze push
 simp only [Nat.one_ne_zero,if_false]
 congr 1
 apply Array.ext_getElem?
 intro k
 rw [Array.getElem?_modify]
 by_cases hk:w.heap.size=k
 ·subst hk;simp
 ·rw [if_neg hk,Array.getElem?_push,Array.getElem?_push,if_neg (fun e=>hk e.symm),if_neg (fun e=>hk e.symm)]
theorem Va {β : Inj} {H : Heap} {w : World} (hR : Rel E.P β H w) {src dst e : TypeId} {s : List Nat} {v : zd} {H' : Heap} (hs : E.desc src = some .string) (hd : E.desc dst = some (.slice e))
    (h : gX E H e s = some (v, H')) (hx : ∀ b ∈ s, b < 256) : Sim E.P β H w (Go.convert src dst (.string (str s))) v H' := by
  replace h := zf h
  obtain ⟨d, he, h⟩ := h
  replace h := zf h
  obtain ⟨k, hk, h⟩ := h
  have := QQ hk
  subst this
  replace h := zl h
  obtain ⟨hu, h⟩ := h
  rw [zB, Bool.and_eq_true] at hu
  obtain ⟨hu, h1⟩ := hu
  have := JS hu
  subst this
  have hts : jC E.P e = 1 := by
    unfold cT at h1
    cases hs1 : E.size e with
    | none => rw [hs1] at h1; cases h1
    | some n =>
      rw [hs1, zg, zG, beq_iff_eq] at h1
      subst h1
      exact (yz hE hs1).choose_spec.2.2.2
  simp only [z7] at h
  have h := jt h
  cases h
  have hq := gK s.length 0 e (w.tape w.drawn (.appendCap s.length 0 e))
  generalize hcut : (Question.appendCap s.length 0 e).cut (w.tape w.drawn (.appendCap s.length 0 e)) = cap at hq
  have hA := kN w
  have hR' := hR.alike hA
  have hcd : ((str s).data.map fun b => Value.int .u8 b.toNat) ++ Array.replicate (cap - s.length) (Value.int .u8 0) = (zq β (mapA u8 s) ++ List.replicate (cap - s.length) (Value.int .u8 0)).toArray := by
    rw [Xw s hx β]
    apply Array.toList_inj.1
    simp
  obtain ⟨r1, r2⟩ := hR'.newRow (t := e) (e := cap - s.length) (fz := (s.length + (cap - s.length), s.length + (cap - s.length) + 1))
    (kq.ofList (tu β s) (List.replicate (cap - s.length) (Value.int .u8 0)) (cap - s.length) (by rw [hts]; simp) _ (by intro i hi; simp at hi ⊢; omega))
  refine ⟨β.put H.next (w.heap.size, 0, cap - s.length), _, ?_, ⟨by simp [Inj.zM], Nat.le_refl _⟩, r1, (Ext.alike hR.bnd hA).trans r2⟩
  have hsz : (zq β (mapA u8 s) ++ List.replicate (cap - s.length) (Value.int .u8 0)).toArray.size = s.length + (cap - s.length) := by simp [zK]
  unfold Go.convert
  simp only [Sem.run_bind, zr hE hs, zr hE hd, Result.andThen_ok, zr hE he]
  unfold Conv.stringToBytes markStringish
  simp only [Sem.run_bind, run_choose, Question.forced, Bool.false_eq_true, if_false, qK, hcut, Result.andThen_ok, hcd, newRow, run_newObj, Sem.run_pure, run_shape]
  have hsh : (push { w with drawn := w.drawn + 1 } (.cells (zq β (mapA u8 s) ++ List.replicate (cap - s.length) (Value.int .u8 0)).toArray e)).shape? w.heap.size =
      some (e, s.length + (cap - s.length)) := by
    unfold World.shape?
    rw [j6 { w with drawn := w.drawn + 1 }]
    simp [zK]
  have hfz := WS { w with drawn := w.drawn + 1 } (zq β (mapA u8 s) ++ List.replicate (cap - s.length) (Value.int .u8 0)).toArray e
  rw [hsz] at hfz
  have hfz : (push { w with drawn := w.drawn + 1 } (.cells (zq β (mapA u8 s) ++ List.replicate (cap - s.length) (Value.int .u8 0)).toArray e)).freeze ⟨w.heap.size, s.length + (cap - s.length), none⟩ 1 = _ := hfz
  have fin : ∀ W : World, W = push { w with drawn := w.drawn + 1 } (.cells (zq β (mapA u8 s) ++ List.replicate (cap - s.length) (Value.int .u8 0)).toArray e) →
      ((match W.shape? w.heap.size with
        | some (_, n) => freeze { block := w.heap.size, off := n } 1
        | _ => (pure () : Sem Unit)).run E.P W).andThen (fun _ w' => Result.ok (Value.slice (some { block := w.heap.size, off := 0 }) s.length cap) w') =
      Result.ok (zh (β.put H.next (w.heap.size, 0, cap - s.length)) (zd.slice H.next 0 (qT s 0) (qT s 0) false))
        (push { w with drawn := w.drawn + 1 } (.cells (zq β (mapA u8 s) ++ List.replicate (cap - s.length) (Value.int .u8 0)).toArray e (s.length + (cap - s.length), s.length + (cap - s.length) + 1))) := by
    intro W hW
    rw [hW, hsh]
    simp only [run_freeze, Result.andThen_ok]
    rw [hfz]
    simp only [zh, jz, Xc, Bool.false_eq_true, if_false, ka]
    rw [show s.length + (cap - s.length) = cap by omega]
  exact fin _ rfl
theorem KK {β : Inj} {H : Heap} {w : World} (hR : Rel E.P β H w) {src dst e : TypeId} {d : TypeDesc} {k : IntKind} {x : zd} {s : ByteArray} (hs : E.desc src = some .string) (hd : E.desc dst = some (.slice e)) (he : E.desc e = some d) (hk : Jv d = some k)
    (hu : zH (br k) (cT E e) = true) (hx : WF β x) (hc : zh β x = .string s) : Sim E.P β H w (Go.convert src dst (.string s)) (.osl H.next x) ⟨H.blk.set H.next (.text e x), H.next + 1⟩ := by
  have := QQ hk
  subst this
  rw [zB, Bool.and_eq_true] at hu
  obtain ⟨hu, h1⟩ := hu
  have := JS hu
  subst this
  have hts : jC E.P e = 1 := by
    unfold cT at h1
    cases hs1 : E.size e with
    | none => rw [hs1] at h1; cases h1
    | some n =>
      rw [hs1, zg, zG, beq_iff_eq] at h1
      subst h1
      exact (yz hE hs1).choose_spec.2.2.2
  have hq := gK s.size 0 e (w.tape w.drawn (.appendCap s.size 0 e))
  generalize hcut : (Question.appendCap s.size 0 e).cut (w.tape w.drawn (.appendCap s.size 0 e)) = cap at hq
  have hA := kN w
  have hR' := hR.alike hA
  have hcd : (s.data.map fun b => Value.int .u8 b.toNat) ++ Array.replicate (cap - s.size) (Value.int .u8 0) = (zq β (u8s s) ++ List.replicate (cap - s.size) (Value.int .u8 0)).toArray := by
    apply Array.toList_inj.1
    simp [u8s_conc]
  have hln : (List.replicate (cap - s.size) (Value.int .u8 0)).length = cap - s.size := List.length_replicate
  obtain ⟨r1, r2⟩ := hR'.newText hE (e := e) (extra := List.replicate (cap - s.size) (Value.int .u8 0)) hx hc hts (s.size + (cap - s.size), s.size + (cap - s.size) + 1) (by intro i hi; rw [hln] at hi; simp; omega)
  have hf : β H.next = none := hR.fresh (Nat.le_refl _)
  obtain ⟨o1, o2⟩ := Vj hE (H := H) (x := (w.heap.size, 0, s.size + (List.replicate (cap - s.size) (Value.int .u8 0)).length)) hx hc hf (Nat.le_add_right _ _)
  refine ⟨_, _, ?_, o1, r1, (Ext.alike hR.bnd hA).trans r2⟩
  have hul : (zq β (u8s s)).length = s.size := by rw [zK, List.length_map, u8s_length]
  have hsz : (zq β (u8s s) ++ List.replicate (cap - s.size) (Value.int .u8 0)).toArray.size = s.size + (cap - s.size) := by simp [hul]
  unfold Go.convert
  simp only [Sem.run_bind, zr hE hs, zr hE hd, Result.andThen_ok, zr hE he]
  unfold Conv.stringToBytes markStringish
  simp only [Sem.run_bind, run_choose, Question.forced, Bool.false_eq_true, if_false, hcut, Result.andThen_ok, hcd, newRow, run_newObj, Sem.run_pure, run_shape]
  have hsh : (push { w with drawn := w.drawn + 1 } (.cells (zq β (u8s s) ++ List.replicate (cap - s.size) (Value.int .u8 0)).toArray e)).shape? w.heap.size =
      some (e, s.size + (cap - s.size)) := by
    unfold World.shape?
    rw [j6 { w with drawn := w.drawn + 1 }]
    simp [hul]
  have hfz := WS { w with drawn := w.drawn + 1 } (zq β (u8s s) ++ List.replicate (cap - s.size) (Value.int .u8 0)).toArray e
  rw [hsz] at hfz
  have hfz : (push { w with drawn := w.drawn + 1 } (.cells (zq β (u8s s) ++ List.replicate (cap - s.size) (Value.int .u8 0)).toArray e)).freeze ⟨w.heap.size, s.size + (cap - s.size), none⟩ 1 = _ := hfz
  have fin : ∀ W : World, W = push { w with drawn := w.drawn + 1 } (.cells (zq β (u8s s) ++ List.replicate (cap - s.size) (Value.int .u8 0)).toArray e) →
      ((match W.shape? w.heap.size with
        | some (_, n) => freeze { block := w.heap.size, off := n } 1
        | _ => (pure () : Sem Unit)).run E.P W).andThen (fun _ w' => Result.ok (Value.slice (some { block := w.heap.size, off := 0 }) s.size cap) w') =
      Result.ok (zh (β.put H.next (w.heap.size, 0, s.size + (List.replicate (cap - s.size) (Value.int .u8 0)).length)) (zd.osl H.next x))
        (push { w with drawn := w.drawn + 1 } (.cells (zq β (u8s s) ++ List.replicate (cap - s.size) (Value.int .u8 0)).toArray e (s.size + (cap - s.size), s.size + (cap - s.size) + 1))) := by
    intro W hW
    rw [hW, hsh]
    simp only [run_freeze, Result.andThen_ok]
    rw [hfz, o2, hln]
    rw [show s.size + (cap - s.size) = cap by omega]
  exact fin _ rfl
end
end
section
variable [Unk]
theorem Rel.drop {P:Program}{β:Inj}{H:Heap}{w w':World} (hR:Rel P β H w) {id:Nat}{b:zJ}{x:Nat×Nat×Nat}
  (h60:100≤id) (hb:H.blk.get id=some b) (hx:β id=some x) (ht:ZG x.1 w w') :
  Rel P β ⟨H.blk.del id,H.next⟩ w'∧Ext β H w β ⟨H.blk.del id,H.next⟩ w':=by
 have aux:∀ i c,(H.blk.del id).get i=some c→i≠id∧H.blk.get i=some c:=by
  intro i c h
  rw [Tr.jn]at h
  by_cases hi:id=i
  ·rw [if_pos hi]at h;cases h
  ·rw [if_neg hi]at h;exact ⟨fun e=>hi e.symm,h⟩
 refine ⟨⟨hR.base,?_,fun i j c d y z h1 h2 h3 h4 e=>hR.inj _ _ _ _ _ _ (aux _ _ h1).2 h2 (aux _ _ h3).2 h4 e,hR.bnd,fun i c h=>hR.live _ _ (aux _ _ h).2⟩,
  ⟨fun _ _=>rfl,Nat.le_refl _,?_,fun i c _ h=>⟨c,(aux _ _ h).2⟩,fun i hi=>(by show (H.blk.del id).get i=_;rw [Tr.jn,if_neg (by omega)]),fun i y hi e=>absurd (hR.bnd _ _ e) (by omega),?_,by rw [ht.size];exact Nat.le_refl _,ht.tape,ht.os,ht.output⟩⟩
 ·intro i c y h1 h2
  obtain ⟨g1,g2⟩:=aux _ _ h1
  refine (hR.blk i c y g2 h2).heap (ht.other _ fun e=>g1 ?_)
  exact hR.Ja (.inr h60) g2 h2 hb hx e
 ·intro i _ e
  show (H.blk.del id).get i=_
  rw [Tr.jn,if_neg]
  intro hi;subst hi;rw [hx]at e;cases e
 ·intro c _ hc
  exact ht.other c fun e=>hc ⟨id,b,x,h60,hb,hx,e.symm⟩
theorem aD (w:World) (a:Addr) (n:Nat):ZG a.block w (w.freeze a n):=by
 unfold World.freeze
 split
 ·exact .refl _ _
 ·refine ⟨fun k hk=>?_,by simp,rfl,rfl,rfl⟩
  simp only [Array.getElem?_modify]
  rw [if_neg (fun e=>hk e.symm)]
theorem Yv {v:zd}{b:Nat} (h:JY v=some b):∃ n:Nat,v = .int .u8 (.ofNat n)∧b=n % 256:=by
 replace h:=zf h
 obtain ⟨p,hp,h⟩:=h
 have:=qU hp
 subst this
 replace h:=zl h
 obtain ⟨h1,h⟩:=h
 have:=JS h1
 replace h:=qP h
 obtain ⟨n,hn,h⟩:=h
 cases h
 exact ⟨n,by rw [this,hn],rfl⟩
theorem Jw:∀ {cs:List zd}{l:List Nat},Xh cs=some l→∃ ns:List Nat,cs=ns.map (fun n=>.int .u8 (.ofNat n))∧l=ns.map (· % 256)
 | [],l,h=>by
  have h:some ([]:List Nat)=some l:=h
  cases h;exact ⟨[],rfl,rfl⟩
 | v::cs,l,h=>by
  have h:(bnd (JY v) fun b=>bnd (Xh cs) fun m=>some (b::m))=some l:=(Qf JY v cs).symm.trans h
  replace h:=zf h
  obtain ⟨b,hb,h⟩:=h
  replace h:=zf h
  obtain ⟨m,hm,h⟩:=h
  cases h
  obtain ⟨n,rfl,rfl⟩:=Yv hb
  obtain ⟨ns,rfl,rfl⟩:=Jw hm
  exact ⟨n::ns,rfl,rfl⟩
theorem ofNat_mod (n:Nat):UInt8.ofNat (n % 256)=UInt8.ofNat n:=by
 apply UInt8.toNat_inj.1
 simp
theorem iR (ns:List Nat):str (ns.map (· % 256))=⟨(ns.map UInt8.ofNat).toArray⟩:=by
 unfold str
 congr 2
 rw [List.map_map]
 exact List.map_congr_left fun n _=>ofNat_mod n
theorem tw (β:Inj) (ns:List Nat):WF β (.str (ns.map (· % 256))):=by
 intro b hb
 obtain ⟨n,_,rfl⟩:=List.mem_map.1 hb
 exact Nat.mod_lt _ (by omega)
theorem ep (β:Inj) (ns:List Nat):zq β (ns.map fun n=>zd.int .u8 (.ofNat n))=(ns.map Int.ofNat).map (Value.int .u8):=by
 rw [zK,List.map_map,List.map_map]
 rfl
theorem fold_push (ns:List Nat):∀ s:ByteArray,(ns.map Int.ofNat).foldl (fun r n=>r.push (UInt8.ofNat n.toNat)) s=⟨s.data++(ns.map UInt8.ofNat).toArray⟩:=by
 induction ns with
 | nil=>intro s;simp
 | cons n ns ih=>
  intro s
  rw [List.map_cons,List.foldl_cons,ih]
  apply ByteArray.ext
  simp [ByteArray.push]
section
variable {E:Env} (hE:jU E)
include hE
theorem Up {β:Inj} (hF:qd E β) {H H':Heap}{w:World} (hR:Rel E.P β H w) {src dst e:TypeId}{x v:zd} (hs:E.desc src=some (.slice e)) (hd:E.desc dst=some .string)
  (h:l8 E H e x=some (v,H')) (hx:WF β x):Sim E.P β H w (Go.convert src dst (zh β x)) v H':=by
 replace h:=zf h
 obtain ⟨d,he,h⟩:=h
 replace h:=zf h
 obtain ⟨k,hk,h⟩:=h
 have:=QQ hk
 subst this
 replace h:=zl h
 obtain ⟨hu,h⟩:=h
 have:=JS hu
 subst this
 cases h1:jN x with
 | none=>
  rw [h1,zm,zu]at h
  split at h
  case isFalse=>
   replace h:=zf h
   obtain ⟨p,hp,h⟩:=h
   replace h:=zf h
   obtain ⟨u,hu',h⟩:=h
   cases h
   obtain ⟨w1,s,e1,e2,e3⟩:=Qw hE hF hR hu' hx
   have:=ZD hp
   subst this
   have e4:=e3 w (alike_refl w)
   have e4:(loadCells (β.addr p.1 0) s.size).run E.P w = .ok (zq β (u8s s)).toArray w:=by simpa [Builtin.firstCells,zh] using e4
   have e5:(sOf (zh β p.2)).size=s.size:=by
    have:(Builtin.lenOf (zh β (.osl p.1 p.2))).run E.P w = .ok (sOf (zh β p.2)).size w:=by simp [Builtin.lenOf,zh]
    rw [this]at e2
    exact (Result.ok.inj e2).1
   refine zY.sim ⟨?_,w1⟩ hR
   rw [u8s_conc]at e4
   have e0:=run_convert_bytes_string (P:=E.P) w src dst e (some (β.addr p.1 0)) s.size (β.ext p.1) (jT hE hs) (jT hE he) (jT hE hd)
   have e6:=run_bytesToString (P:=E.P) w (β.addr p.1 0) s.size (β.ext p.1) (s.data.toList.map fun b=>((b.toNat:Nat):Int)) (by rw [e4,List.map_map];rfl)
   show (Go.convert src dst (.slice (some (β.addr p.1 0)) (sOf (zh β p.2)).size (β.ext p.1))).run E.P w=_
   rw [e5,e0,e6,e1]
   have key:∀ (l:List UInt8) (r:ByteArray),(l.map fun b=>((b.toNat:Nat):Int)).foldl (fun r n=>r.push (UInt8.ofNat n.toNat)) r=⟨r.data++l.toArray⟩:=by
    intro l
    induction l with
    | nil=>intro r;simp
    | cons b l ih=>
     intro r
     simp only [List.map_cons,List.foldl_cons]
     rw [ih]
     simp [ByteArray.push]
   rw [key]
   simp
  rename_i h2
  have:=je h2
  subst this
  cases h
  refine zY.sim ⟨?_,by intro b hb;cases hb⟩ hR
  have e0:=run_convert_bytes_string (P:=E.P) w src dst e none 0 0 (jT hE hs) (jT hE he) (jT hE hd)
  show (Go.convert src dst (.slice none 0 0)).run E.P w=_
  rw [e0]
  rfl
 | some s=>
  have:=jo h1
  subst this
  rw [h1,zg]at h
  replace h:∃ ns:List Nat,H.jM s.b s.off s.len=some (ns.map u8)∧v = .str (ns.map (· % 256))∧H'=H:=by
   cases hq:pkL H s with
   | some l=>
    rw [hq,zg]at h
    cases h
    obtain ⟨e1,_,e3⟩:=pN hq
    refine ⟨l,e3,?_,rfl⟩
    have:l.map (· % 256)=l:=by
     refine (List.map_congr_left (g:=fun b=>b) fun b hb=>?_).trans (List.map_id' l)
     exact Nat.mod_eq_of_lt (e1 b hb)
    rw [this]
   | none=>
    rw [hq,zm]at h
    obtain ⟨cs,hl,h⟩:=zf h
    obtain ⟨l,hb,h⟩:=zf h
    cases h
    obtain ⟨ns,rfl,rfl⟩:=Jw hb
    exact ⟨ns,hl,rfl,rfl⟩
  obtain ⟨ns,hl,rfl,rfl⟩:=h
  obtain ⟨g1,g2,g3⟩:=hR.jM hl hx.1
  refine zY.sim ⟨?_,tw β ns⟩ hR
  have u8e:ns.map u8=ns.map fun n=>zd.int IntKind.u8 (Int.ofNat n):=rfl
  rw [u8e,ep]at g3
  have e0:=run_convert_bytes_string (P:=E.P) w src dst e (some (β.addr s.b s.off)) s.len (if s.ex then s.cap else s.cap+β.ext s.b) (jT hE hs) (jT hE he) (jT hE hd)
  have e1:=run_bytesToString (P:=E.P) w (β.addr s.b s.off) s.len (if s.ex then s.cap else s.cap+β.ext s.b) _ g3
  show (Go.convert src dst (.slice (some (β.addr s.b s.off)) s.len (if s.ex then s.cap else s.cap+β.ext s.b))).run E.P w=_
  rw [e0,e1,fold_push,zh,iR]
  simp
omit hE in
theorem Jg {P:Program} (w:World):∀ (ns:List Nat) (a:Addr) (acc:ByteArray),(∀ j n,ns[j]? = some n→w.cell? (a.add j)=some (.int .u8 (.ofNat n))) →
  (loadBytes a acc ns.length).run P w = .ok ⟨acc.data++(ns.map UInt8.ofNat).toArray⟩ w
 | [],a,acc,_=>by simp [loadBytes]
 | x::l,a,acc,h=>by
  have h0:w.cell? a=some (.int .u8 (.ofNat x)):=by
   have:=h 0 x rfl
   simpa [Addr.add] using this
  have ih:=Jg (P:=P) w l (a.add 1) (acc.push (UInt8.ofNat x)) (fun j y hy=>by
   have:=h (j+1) y (by simpa using hy)
   have e:(a.add 1).add j=a.add (j+1):=by
    unfold Addr.add
    by_cases hj:j=0
    ·subst hj;simp
    ·simp [hj];omega
   rw [e];exact this)
  have hx:((Int.ofNat x).toNat).toUInt8=UInt8.ofNat x:=by simp
  simp only [List.length_cons,loadBytes,Sem.run_bind,run_load,h0,Result.andThen,hx]
  rw [ih]
  congr 1
  apply ByteArray.ext
  simp [ByteArray.push]
omit hE in
theorem rV {P:Program}{e:TypeId} (hc:P.cellsOf e=1) (count off n:Nat) (hn:off+n≤count):liesAt P P.depth e count off e n=true:=by
 have hd:P.depth=(2*(P.types.size+Made.depth)+1)+1:=rfl
 rw [hd]
 simp only [liesAt,Bool.or_eq_true]
 left
 rw [hd]
 simp [rowAt,hc,hn,sameLayout,Nat.mod_one]
theorem Xe {t:TypeId}{n:Nat} (h:E.size t=some n):E.P.cellsOf t=n:=by
 obtain ⟨i,h1,h2,h3,h4⟩:=yz hE h
 unfold Program.cellsOf
 rw [h1];exact h3
theorem Ut {β : Inj} {H H' : Heap} {w : World} (hR : Rel E.P β H w) {pt it ty : TypeId} {p v : zd} {n : Nat} (h : cw E H pt p n = some (v, H')) (hp : WF β p) (hn63 : n ≤ 9223372036854775807) :
    Sim E.P β H w (Builtin.unsafeString_ #[pt, it] ty #[zh β p, .int .i64 n]) v H' := by
  unfold cw at h
  cases n with
  | zero =>
    rw [XZ] at h
    have hs : ∃ q, zh β p = .pointer q ∧ v = .str [] ∧ H' = H := by
      rw [zu] at h
      by_cases h1 : gm p = true
      · rw [if_pos h1] at h
        have := nH h1
        subst this
        cases h
        exact ⟨none, rfl, rfl, rfl⟩
      · rw [if_neg h1] at h
        replace h := zf h
        obtain ⟨q, hq, h⟩ := h
        have := j9 hq
        subst this
        cases h
        exact ⟨_, rfl, rfl, rfl⟩
    obtain ⟨q, e1, rfl, rfl⟩ := hs
    refine zY.sim ⟨?_, by intro b hb; cases hb⟩ hR
    rw [e1]
    exact Lib.run_unsafeString_none w pt it ty q
  | succ m =>
    rw [JM] at h
    replace h := zf h
    obtain ⟨q, hq, h⟩ := h
    have := j9 hq
    subst this
    replace h := zf h
    obtain ⟨d, hd, h⟩ := h
    replace h := zf h
    obtain ⟨u, hu, h⟩ := h
    have := Vt hu
    subst this
    replace h := zf h
    obtain ⟨s, hs, h⟩ := h
    replace h := zf h
    obtain ⟨r, hr, h⟩ := h
    replace h := zl h
    obtain ⟨hc, h⟩ := h
    simp only [zB, Bool.and_eq_true, zN, zG, decide_eq_true_eq, beq_iff_eq] at hc
    obtain ⟨h60, rfl, hrt, hle⟩ := hc
    have hle : q.2 + (m + 1) ≤ r.n := hle
    replace h := zf h
    obtain ⟨cs, hcs, h⟩ := h
    replace h := zf h
    obtain ⟨l, hl, h⟩ := h
    cases h
    obtain ⟨ns, rfl, rfl⟩ := Jw hl
    obtain ⟨k1, k2⟩ := Tr.kh _ _ _ _ hcs
    rw [List.length_map] at k1
    obtain ⟨arr, fz, g1, g2⟩ := hR.rowAt hr hp
    have hsz := g2.size
    obtain ⟨x, hx⟩ := Option.isSome_iff_exists.1 hp
    have hx1 : β.blk q.1 = x.1 := by simp [Inj.blk, hx]
    have ht := aD w (β.addr q.1 q.2) (m + 1)
    have ht : ZG x.1 w (w.freeze (β.addr q.1 q.2) (m + 1)) := by rw [← hx1]; exact ht
    obtain ⟨b0, hb0, _⟩ := QC hr
    obtain ⟨r1, r2⟩ := hR.drop h60 hb0 hx ht
    refine Sim.pY ?_ (tw β ns) r1 r2
    have hlb := Jg (P := E.P) w ns (β.addr q.1 q.2) .empty (fun j n hj => by
      rw [Inj.jf]
      have hjl : j < ns.length := (List.getElem?_eq_some_iff.1 hj).1
      refine (hR.cell hr hp (v := .int .u8 (.ofNat n)) ?_).1
      rw [k2 j (by omega), List.getElem?_map, hj]; rfl)
    have hcell := Xe hE hs
    have hsh : w.shape? (β.addr q.1 q.2).block = some (u, arr.size) := by
      show w.shape? (β.blk q.1) = _
      unfold World.shape?; rw [g1]; simp [hrt]
    have hlies := rV (P := E.P) hcell (arr.size / E.P.cellsOf u) (β.sh q.1 + q.2) (m + 1) (by rw [hcell]; simp; omega)
    have hdef : Builtin.unsafeString_ #[pt, it] ty #[.pointer (some (β.addr q.1 q.2)), .int .i64 ((m + 1 : Nat) : Int)] =
        (do
          let n ← Go.asInt (.int .i64 ((m + 1 : Nat) : Int))
          if n < 0 then runtimePanic (.error "unsafe.String: len out of range")
          if n > IntKind.i64.max then unsupported (.unsafePointer "String: a length above the largest int")
          if n = 0 then pure (.string .empty)
          else if ← variablesAt (β.addr q.1 q.2) (← elemOf pt) n.toNat then do
            let s ← loadBytes (β.addr q.1 q.2) .empty n.toNat
            freeze (β.addr q.1 q.2) n.toNat
            pure (.string s)
          else unsupported (.unsafePointer "String: not so many bytes at ptr")) := rfl
    have hmax : IntKind.i64.max = 9223372036854775807 := rfl
    have n1 : ¬ (((m + 1 : Nat) : Int) < 0) := by omega
    have n2 : ¬ (((m + 1 : Nat) : Int) > IntKind.i64.max) := by rw [hmax]; omega
    have n3 : ¬ (((m + 1 : Nat) : Int) = 0) := by omega
    have hl0 : liesAt E.P E.P.depth u (arr.size / E.P.cellsOf u) (β.addr q.1 q.2).off u (m + 1) = true := hlies
    rw [k1] at hlb
    show (Builtin.unsafeString_ #[pt, it] ty #[.pointer (some (β.addr q.1 q.2)), .int .i64 ((m + 1 : Nat) : Int)]).run E.P w = _
    rw [hdef]
    simp only [Go.asInt, asIntOf, Sem.run_bind, Sem.run_pure, Result.andThen_ok, n1, n2, n3, if_false, variablesAt, elemOf, zr hE hd, run_program, run_shape, hsh, hl0, Int.toNat_natCast, hlb, run_freeze, if_true]
    rw [zh, iR]
    simp
end
end
section
variable [Unk]
section
variable {E:Env} (hE:jU E)
include hE
omit hE in
theorem Wl {P:Program}{β:Inj}{H H':Heap}{w:World} (hR:Rel P β H w) {x v:zd} (h:Yy H x=some (v,H')) (hx:WF β x) (ts:Array TypeId) (ty:TypeId) :
  Sim P β H w (Builtin.unsafeSliceData_ ts ty #[zh β x]) v H':=by
 unfold Yy at h
 cases h1:jN x with
 | none=>
  rw [h1,zm]at h
  replace h:=zl h
  obtain ⟨h2,h⟩:=h
  have:=je h2
  subst this
  cases h
  exact zY.sim ⟨rfl,trivial⟩ hR
 | some s=>
  have:=jo h1
  subst this
  rw [h1,zg]at h
  replace h:=Qk h
  obtain ⟨m,hm,h⟩:=h
  cases h
  refine zY.sim ⟨?_,hx.1⟩ hR
  exact Lib.run_unsafeSliceData_row w ts ty (β.addr s.b s.off) s.len _ (by split<;>omega)
theorem Vb {β:Inj}{H H':Heap}{w:World} (hR:Rel E.P β H w) {src dst t:TypeId}{x v:zd} (hs:E.desc src=some (.pointer t)) (hd:E.desc dst=some .unsafePointer)
  (h:aq E H t x=some (v,H')) (hx:WF β x):Sim E.P β H w (Go.convert src dst (zh β x)) v H':=by
 replace h:=zf h
 obtain ⟨p,hp,h⟩:=h
 have:=j9 hp
 subst this
 replace h:=zf h
 obtain ⟨s,hsz,h⟩:=h
 replace h:=zf h
 obtain ⟨r,hr,h⟩:=h
 replace h:=Qk h
 obtain ⟨m,hm,h⟩:=h
 replace h:=zl h
 obtain ⟨hlt,h⟩:=h
 rw [qo,decide_eq_true_eq]at hlt
 cases h
 refine zY.sim ⟨?_,hx⟩ hR
 obtain ⟨arr,fz,g1,g2⟩:=hR.rowAt hr hx
 have hsize:=g2.size
 have hsh:w.shape? (β.blk p.1)=some (r.t,arr.size):=by unfold World.shape?;rw [g1]
 unfold Go.convert
 simp only [Sem.run_bind,zr hE hs,zr hE hd,Result.andThen_ok,zh,Conv.unsafePointer,Conv.seenAt,viewAt,cellsIn,run_shape,Inj.addr,hsh,Option.isSome_some,if_true,Sem.run_pure,qk hE hsz,hm,Nat.succ_ne_zero,decide_false]
 have:¬ (arr.size≤β.sh p.1+p.2):=by omega
 simp [this]
theorem Xf {β:Inj}{H H':Heap}{w:World} (hR:Rel E.P β H w) {src dst u:TypeId}{x v:zd} (hs:E.desc src=some .unsafePointer) (hd:E.desc dst=some (.pointer u))
  (h:WV E H u x=some (v,H')) (hx:WF β x):Sim E.P β H w (Go.convert src dst (zh β x)) v H':=by
 replace h:=zf h
 obtain ⟨p,hp,h⟩:=h
 have:=j9 hp
 subst this
 replace h:=zf h
 obtain ⟨s,hsz,h⟩:=h
 replace h:=zf h
 obtain ⟨r,hr,h⟩:=h
 replace h:=Qk h
 obtain ⟨m,hm,h⟩:=h
 replace h:=zl h
 obtain ⟨hc,h⟩:=h
 simp only [zB,Bool.and_eq_true,zN,zG,decide_eq_true_eq,beq_iff_eq]at hc
 obtain ⟨hrt,hmod,hle⟩:=hc
 have hmod:p.2 % s=0:=hmod
 have hle:p.2+s≤r.n:=hle
 cases h
 refine zY.sim ⟨?_,hx⟩ hR
 obtain ⟨arr,fz,g1,g2⟩:=hR.rowAt hr hx
 have hsize:=g2.size
 have hts:jC E.P u=s:=(yz hE hsz).choose_spec.2.2.2
 have hal:=g2.al
 rw [hrt,hts]at hal
 have hcell:=Xe hE hsz
 have hsh:w.shape? (β.blk p.1)=some (u,arr.size):=by unfold World.shape?;rw [g1,hrt]
 have hdv:s ∣ β.sh p.1+p.2:=Nat.dvd_add hal (Nat.dvd_of_mod_eq_zero hmod)
 have hlies:liesAt E.P E.P.depth u (arr.size / E.P.cellsOf u) (β.sh p.1+p.2) u 1=true:=by
  have hdp:E.P.depth=(2*(E.P.types.size+Made.depth)+1)+1:=rfl
  have h1:(β.sh p.1+p.2) / s+1≤arr.size / s:=by
   rw [Nat.le_div_iff_mul_le (by omega),Nat.add_mul,Nat.div_mul_cancel hdv];omega
  have h2:(β.sh p.1+p.2) % s=0:=Nat.mod_eq_zero_of_dvd hdv
  rw [hdp]
  simp only [liesAt,Bool.or_eq_true]
  left
  rw [hdp]
  simp [rowAt,hcell,sameLayout,hm]
  left
  rw [hm]at h1 h2
  exact ⟨h2,h1⟩
 unfold Go.convert
 simp only [Sem.run_bind,zr hE hs,zr hE hd,Result.andThen_ok,zh,Conv.unsafePointer,Conv.seenAt,viewAt,run_shape,Inj.addr,hsh,Option.isSome_some,if_true,Sem.run_pure,qk hE hsz,variablesAt,run_program,hlies,Bool.or_true]
theorem Ue {β:Inj} (hF:qd E β) {H H':Heap}{w:World} (hR:Rel E.P β H w) {src dst:TypeId}{x v:zd} (h:iO E H src dst x=some (v,H')) (hx:WF β x) :
  Sim E.P β H w (Go.convert src dst (zh β x)) v H':=by
 replace h:=zf h
 obtain ⟨dd,hd,h⟩:=h
 replace h:=zf h
 obtain ⟨sd,hs,h⟩:=h
 cases hk:Jv dd with
 | some k=>
  rw [hk,zg]at h
  have:=QQ hk
  subst this
  replace h:=zl h
  obtain ⟨hi,h⟩:=h
  replace h:=zf h
  obtain ⟨r,hr,h⟩:=h
  cases h
  obtain ⟨f,hf,e⟩:=qh hr
  have:=rR e
  subst this
  obtain ⟨h1,h2,j,n,e1,e2⟩:=hF _ hf
  refine zY.sim ⟨?_,h2⟩ hR
  unfold Go.convert
  simp [zr hE hs,zr hE hd,e1,e2,Conv.intToInt]
 | none=>
  rw [hk,zm]at h
  replace h:=zl h
  obtain ⟨hc,h⟩:=h
  have:=qW hc
  subst this
  replace h:=zf h
  obtain ⟨r,hr,h⟩:=h
  obtain ⟨f,hf,e⟩:=qh hr
  have:=JO e
  subst this
  obtain ⟨h1,h2,s,e1,e2⟩:=hF _ hf
  rw [zu]at h
  split at h
  case isFalse=>
   replace h:=zf h
   obtain ⟨e,he,h⟩:=h
   have:=jk he
   subst this
   replace h:=zf h
   obtain ⟨d,hed,h⟩:=h
   replace h:=zf h
   obtain ⟨k,hk,h⟩:=h
   obtain ⟨hu,h⟩:=zl h
   cases h
   rw [e1]
   exact KK hE hR hs hd hed hk hu hx e1
  rename_i hc2
  have:=qW hc2
  subst this
  cases h
  refine zY.sim ⟨?_,hx⟩ hR
  unfold Go.convert
  simp [zr hE hs,e1]
  rw [zr hE hd]
  simp
theorem K5 {β:Inj} (hF:qd E β) {H H':Heap}{w:World} (hR:Rel E.P β H w) {src dst:TypeId}{x v:zd} (h:eS E H src dst x=some (v,H')) (hx:WF β x) :
  Sim E.P β H w (Go.convert src dst (zh β x)) v H':=by
 replace h:=zf h
 obtain ⟨dd,hd,h⟩:=h
 replace h:=zf h
 obtain ⟨sd,hs,h⟩:=h
 cases h1:asInt x with
 | some p=>
  rw [h1,zg]at h
  replace h:=zf h
  obtain ⟨k,hk,h⟩:=h
  have:=QQ hk
  subst this
  replace h:=zf h
  obtain ⟨i,hi,h⟩:=h
  cases h
  exact zY.sim (Un hE hs hd hi) hR
 | none=>
  rw [h1,zm,zu]at h
  split at h
  ·rename_i hstr
   have:=qW hstr
   subst this
   replace h:=zf h
   obtain ⟨s,hsx,h⟩:=h
   have:=qw hsx
   subst this
   rw [zu]at h
   split at h
   ·rename_i hds
    have:=qW hds
    subst this
    cases h
    refine zY.sim ⟨?_,hx⟩ hR
    unfold Go.convert
    simp [zr hE hs,zh]
    rw [zr hE hd]
    simp
   ·replace h:=zf h
    obtain ⟨e,he,h⟩:=h
    have:=jk he
    subst this
    exact Va hE hR hs hd h hx
  ·unfold gW at h
   cases h2:jy sd with
   | some e=>
    have:=jk h2
    subst this
    rw [h2,zg]at h
    replace h:=zl h
    obtain ⟨h3,h⟩:=h
    have:=qW h3
    subst this
    exact Up hE hF hR hs hd h hx
   | none=>
    rw [h2,zm]at h
    cases h3:gJ sd with
    | some t=>
     have:=Vt h3
     subst this
     rw [h3,zg]at h
     replace h:=zl h
     obtain ⟨h4,h⟩:=h
     have:=KG h4
     subst this
     exact Vb hE hR hs hd h hx
    | none=>
     rw [h3,zm]at h
     replace h:=zl h
     obtain ⟨h4,h⟩:=h
     have:=KG h4
     subst this
     replace h:=zf h
     obtain ⟨u,hu,h⟩:=h
     have:=Vt hu
     subst this
     exact Xf hE hR hs hd h hx
omit hE in
theorem J6 {P:Program}{t:TypeId}{kd:TypeDesc} (hd:P.underlying t=some kd) {a b:Value}{r:Bool} (h:Instr.sameNow kd a b=some r) (w:World):(Op.equal t a b).run P w = .ok r w:=by
 have hu:(Go.underlying t).run P w = .ok kd w:=run_underlying hd w
 obtain ⟨m,hm⟩:∃ m,Op.maxDepth=m+1:=⟨Op.maxDepth-1,by decide⟩
 show (Op.equalIn Op.maxDepth t a b).run P w=_
 rw [hm]
 unfold Instr.sameNow at h
 split at h
 ·split at h
  ·rename_i hk
   cases h
   subst hk
   simp [Op.equalIn,hu]
  ·cases h
 ·cases h;simp [Op.equalIn,hu]
 ·cases h;simp [Op.equalIn,hu]
 ·cases h
omit hE in
theorem Jt {P:Program}{t:TypeId}{kd:TypeDesc} (hd:P.underlying t=some kd) {k:Value} (w:World):∀ (l:List MapEntry) (i:Nat) (r:Option (Nat×Value)),Instr.findNow kd k l i=some r→(Instr.findAsking t k l i).run P w = .ok r w
 | [],i,r,h=>by cases h;rfl
 | e::l,i,r,h=>by
  unfold Instr.findNow at h
  split at h
  ·rename_i hs
   cases h
   simp [Instr.findAsking,J6 hd hs w]
  ·rename_i hs
   simp [Instr.findAsking,J6 hd hs w,Jt hd w l (i+1) r h]
  ·cases h
omit hE in
theorem Zu {P:Program}{t:TypeId}{kd:TypeDesc} (hd:P.underlying t=some kd) {k:Value} (w:World) (l:List MapEntry):(Instr.findKey t k l).run P w=(Instr.findAsking t k l).run P w:=by
 unfold Instr.findKey
 rw [Sem.run_bind,run_underlying hd w,Result.andThen_ok]
 cases h:Instr.findNow kd k l 0 with
 | none=>rfl
 | some r=>exact (Jt hd w l 0 r h).symm
theorem dO {β:Inj} (hF:qd E β) {H:Heap}{t:TypeId}{kd:TypeDesc} (hd:E.desc t=some kd) {k x:zd}{r:Bool} (h:lG E H t k x=some r) (hf:JR E kd k=true) (hk:WF β k) (hx:WF β x) (w:World) :
  (Op.equal t (zh β k) (zh β x)).run E.P w = .ok r w:=by
 unfold lG at h
 cases hs:qR k with
 | none=>
  rw [hs,zm]at h
  exact (Xp hE β hF H w 10000).1 _ _ _ _ h hk hx Op.maxDepth (by decide)
 | some a=>
  have:=qw hs
  subst this
  rw [hs,zg]at h
  replace h:=zf h
  obtain ⟨b,hb,h⟩:=h
  have:=qw hb
  subst this
  cases h
  have hds:jJ kd=true:=hf
  have:=qW hds
  subst this
  rw [Kj hk hx]
  obtain ⟨m,hm⟩:∃ m,Op.maxDepth=m+1:=⟨Op.maxDepth-1,by decide⟩
  show (Op.equalIn Op.maxDepth t _ _).run _ w=_
  rw [hm]
  simp [zh,Op.equalIn,zr hE hd,beq_toListBytes]
theorem We {β : Inj} (hF : qd E β) {H : Heap} {t : TypeId} {kd : TypeDesc} (hd : E.desc t = some kd) {k : zd} (hf : JR E kd k = true) (hk : WF β k) (w : World) : ∀ (es : Xu) (i : Nat) (f : Option zd),
    lv E H t k es = some f → (∀ e ∈ es, WF β e.1) →
    ∃ r, (Instr.findAsking t (zh β k) (es.map (yI β)) i).run E.P w = .ok r w ∧
      match f with
      | none => r = none
      | some v => ∃ j e, es[j]? = some e ∧ e.1 = k ∧ e.2.1 = v ∧ r = some (i + j, zh β v) ∧ ∀ j' e', j' < j → es[j']? = some e' → qs k e'.1 = false
  | [], i, f, h, _ => by cases h; exact ⟨none, rfl, rfl⟩
  | e :: es, i, f, h, hw => by
    have h : (bnd (lG E H t k e.1) fun r => ifB (qs k e.1) (ifB r (some (some e.2.1)) none) (ifB r none (lv E H t k es))) = some f := h
    replace h := zf h
    obtain ⟨r, hr, h⟩ := h
    have hq := dO hE hF hd hr hf hk (hw e (by simp)) w
    have hq : (Op.equal t (zh β k) (yI β e).key).run E.P w = .ok r w := hq
    rw [List.map_cons, Instr.findAsking, Sem.run_bind, hq, Result.andThen_ok]
    rw [zu] at h
    split at h
    · rename_i hv
      replace h := zl h
      obtain ⟨h1, h⟩ := h
      subst h1
      cases h
      exact ⟨_, rfl, 0, e, rfl, (zX _ _ hv).symm, rfl, rfl, by intro j' e' hj; omega⟩
    · rename_i hv
      replace h := kg h
      obtain ⟨h1, h⟩ := h
      have h1 : r = false := by simpa using h1
      subst h1
      obtain ⟨r, r1, r2⟩ := We hF hd hf hk w es (i + 1) f h (fun e' he' => hw e' (by simp [he']))
      refine ⟨r, r1, ?_⟩
      cases f with
      | none => exact r2
      | some v =>
        obtain ⟨j, e', q1, q2, q3, q4, q5⟩ := r2
        refine ⟨j + 1, e', by simpa using q1, q2, q3, by rw [q4]; congr 2; omega, ?_⟩
        intro j' e'' hj he''
        cases j' with
        | zero => simp at he''; rw [← he'']; simpa using hv
        | succ j' => exact q5 j' e'' (by omega) (by simpa using he'')
theorem gD {β:Inj}{H:Heap}{w:World} (hR:Rel E.P β H w) {x:zd}{es:Xu} (h:H.BE x=some es) (hx:WF β x) :
  (∀ e∈es,WF β e.2.1∧WF β e.1∧WH e.1=true) ∧
  ((x = .nilmap∧es=[])∨∃ r arr c,x = .map r∧w.heap[β.blk r]? = some (.map arr c)∧arr.toList=es.map (yI β)):=by
 have _:=hE
 unfold Heap.BE at h
 rw [zu]at h
 split at h
 ·rename_i hn
  have:=WJ hn
  subst this
  cases h
  exact ⟨fun e he=>absurd he (by simp),.inl ⟨rfl,rfl⟩⟩
 ·replace h:=zf h
  obtain ⟨r,hr,h⟩:=h
  have:=Xl hr
  subst this
  replace h:=zf h
  obtain ⟨b,hb,h⟩:=h
  replace h:=zf h
  obtain ⟨m,hm,h⟩:=h
  cases h
  cases b with
  | map es c=>
   cases hm
   obtain ⟨y,hy⟩:=Option.isSome_iff_exists.1 hx
   obtain ⟨arr,a1,a2,a3⟩:=hR.blk r _ y hb hy
   exact ⟨a3,.inr ⟨r,arr,c,rfl,by simp [Inj.blk,hy];exact a1,a2⟩⟩
  | cells _ _ _=>cases hm
  | loop _ _ _ _ _ _ _ _=>cases hm
  | siter _ _=>cases hm
  | text _ _=>cases hm
  | pack _ _ _=>cases hm
  | ints _ _=>cases hm
  | view _=>cases hm
omit hE in
theorem Zt {P:Program}{α:Type} (g:α→PUnit→Sem (ForInStep PUnit)) (w:World):∀ (l:List α),(∀ x∈l,(g x ⟨⟩).run P w = .ok (.yield ⟨⟩) w)→(forIn l (⟨⟩:PUnit) g).run P w = .ok ⟨⟩ w
 | [],_=>by simp
 | x::l,h=>by
  rw [List.forIn_cons,Sem.run_bind,h x (by simp),Result.andThen_ok]
  exact Zt g w l fun y hy=>h y (by simp [hy])
theorem J5 {w:World}{t:TypeId}{v:Value}{b:Bool}{n:Nat} (h:QB E t=true):(Instr.checkKey b (n+1) t v).run E.P w = .ok () w:=by
 unfold QB at h
 cases hd:E.desc t with
 | none=>rw [hd]at h;cases h
 | some d=>
  rw [hd,zg,zu]at h
  rw [Instr.checkKey]
  split at h
  ·rename_i hs
   have:=qW hs
   subst this
   simp [zr hE hd]
  ·cases hi:Jv d with
   | none=>rw [hi]at h;cases h
   | some k=>
    have:=QQ hi
    subst this
    simp [zr hE hd]
omit hE in
theorem Ya {l:List zd}:∀ (fs:List Field),Qo E l fs=true→∀ f∈fs,QB E f.type=true∧∃ v,E.apart f.type l f.offset=some v
 | [],_,f,hf=>by cases hf
 | d::fs,h,f,hf=>by
  have h:zH (zH (QB E d.type) (zt (E.apart d.type l d.offset) false jE)) (Qo E l fs)=true:=h
  rw [zB,zB,Bool.and_eq_true,Bool.and_eq_true]at h
  obtain ⟨⟨h1,h2⟩,h3⟩:=h
  rcases List.mem_cons.1 hf with rfl | hf
  ·refine ⟨h1,?_⟩
   cases ha:E.apart f.type l f.offset with
   | none=>rw [ha]at h2;cases h2
   | some v=>exact ⟨v,rfl⟩
  ·exact Ya fs h3 f hf
omit hE in
theorem YV {l:List zd}{e:TypeId}{s:Nat}:∀ (is:List Nat),YW E e s l is=true→∀ i∈is,∃ v,E.apart e l (Nat.mul i s)=some v
 | [],_,f,hf=>by cases hf
 | d::is,h,f,hf=>by
  have h:zH (zt (E.apart e l (Nat.mul d s)) false jE) (YW E e s l is)=true:=h
  rw [zB,Bool.and_eq_true]at h
  rcases List.mem_cons.1 hf with rfl | hf
  ·cases ha:E.apart e l (Nat.mul f s) with
   | none=>rw [ha]at h;exact absurd h.1 (by simp)
   | some v=>exact ⟨v,rfl⟩
  ·exact YV is h.2 f hf
theorem run_checkKey {w:World}{t:TypeId}{d:TypeDesc}{b:Bool}{k:zd}{β:Inj} (h:E.desc t=some d) (hf:JR E d k=true) (hk:WF β k):(Instr.checkKey b 10000 t (zh β k)).run E.P w = .ok () w:=by
 rw [show (10000:Nat)=9999+1 from rfl]
 cases k
 case str s=>
  have hds:jJ d=true:=hf
  have:=qW hds
  subst this
  rw [Instr.checkKey]
  simp [zr hE h]
 case int k n=>
  have hf:(zt (Jv d) false fun _=>true)=true:=hf
  cases hi:Jv d with
  | none=>rw [hi]at hf;cases hf
  | some k=>
   have:=QQ hi
   subst this
   rw [Instr.checkKey]
   simp [zr hE h]
 case agg l=>
  have hg:zH (ZF jE l) (zt (k8 d) (zt (yw d) false fun q=>gl E l q) fun fs=>Qo E l fs)=true:=hf
  clear hf
  rw [zB,Bool.and_eq_true]at hg
  cases hi:k8 d with
  | none=>
   rw [hi,zm]at hg
   cases hj:yw d with
   | none=>rw [hj]at hg;exact absurd hg.2 (by simp)
   | some q=>
    rw [hj,zg]at hg
    have:=yu hj
    subst this
    have hq:zH (QB E q.2) (zt (E.size q.2) false fun s=>YW E q.2 s l (List.range q.1))=true:=hg.2
    rw [zB,Bool.and_eq_true]at hq
    cases hs:E.size q.2 with
    | none=>rw [hs]at hq;exact absurd hq.2 (by simp)
    | some sz=>
     rw [hs,zg]at hq
     have hall:=YV (E:=E) (List.range q.1) hq.2
     rw [Instr.checkKey]
     simp only [Sem.run_bind,zr hE h,Result.andThen_ok,zh]
     simp only [Std.Legacy.Range.forIn_eq_forIn_range',Std.Legacy.Range.size,Nat.sub_zero,Nat.add_one_sub_one,Nat.div_one,← List.range_eq_range']
     rw [Zt _ w (List.range q.1)]
     ·simp
     ·intro i him
      obtain ⟨v,s2⟩:=hall i him
      have hp:=(kP hE s2 hk w).1
      have hp:(part q.2 (zq β l).toArray (i*sz)).run E.P w = .ok (zh β v) w:=hp
      simp only [Sem.run_bind,qk hE hs,hp,Result.andThen_ok,J5 hE (n:=9998) hq.1,Sem.run_pure]
  | some fs=>
   rw [hi,zg]at hg
   have hds:=QP hi
   obtain ⟨fs',e1,e2⟩:=hds
   subst e1
   subst e2
   rw [Instr.checkKey]
   simp only [Sem.run_bind,zr hE h,Result.andThen_ok,zh]
   rw [← Array.forIn_toList]
   have hall:=Ya (E:=E) fs'.toList hg.2
   rw [Zt _ w fs'.toList]
   ·simp
   ·intro f hfm
    obtain ⟨s1,v,s2⟩:=hall f hfm
    have hp:=(kP hE s2 hk w).1
    by_cases hn:f.name = "_"
    ·simp [hn]
    ·simp only [ne_eq,hn,not_false_eq_true,if_true,Sem.run_bind,hp,Result.andThen_ok,J5 hE (n:=9998) s1,Sem.run_pure]
 all_goals cases hf
theorem Uq {β : Inj} (hF : qd E β) {H : Heap} {w : World} (hR : Rel E.P β H w) {t : TypeId} {x k v : zd} {ok : Bool} (h : mh E H t x k ok = some v) (hx : WF β x) (hk : WF β k) :
    zY E.P β w (Instr.lookup t (zh β x) (zh β k) ok) v := by
  replace h := zf h
  obtain ⟨d, hd, h⟩ := h
  replace h := zf h
  obtain ⟨q, hq, h⟩ := h
  have := Vu hq
  subst this
  replace h := zf h
  obtain ⟨kd, hkd, h⟩ := h
  replace h := zl h
  obtain ⟨hks, h⟩ := h
  replace h := zf h
  obtain ⟨es, hes, h⟩ := h
  replace h := zf h
  obtain ⟨f, hf, h⟩ := h
  obtain ⟨e1, e2⟩ := gD hE hR hes hx
  have key : ∀ (arr : Array MapEntry), arr.toList = es.map (yI β) →
      ((do
        Instr.checkKey arr.isEmpty 10000 q.1 (zh β k)
        let (v, ok') ← match ← Instr.findKey q.1 (zh β k) arr.toList with
          | some (_, v) => pure (v, true)
          | none => do pure (← zeroValue q.2, false)
        pure (if ok then .tuple #[v, .bool ok'] else v)) : Sem Value).run E.P w = .ok (zh β v) w ∧ WF β v := by
    intro arr harr
    obtain ⟨r, r1, r2⟩ := We hE hF hkd hks hk w es 0 f hf (fun e he => (e1 e he).2.1)
    have r1' : (Instr.findKey q.1 (zh β k) arr.toList).run E.P w = .ok r w := by
      rw [Zu (jT hE hkd), harr, r1]
    simp only [Sem.run_bind, run_checkKey hE hkd hks hk, Result.andThen_ok, r1']
    cases f with
    | none =>
      rw [zm] at h
      replace h := zf h
      obtain ⟨z, hz, h⟩ := h
      cases h
      obtain ⟨z1, z2⟩ := jL hE hz β w
      rw [show r = none from r2]
      simp only [Sem.run_bind, z1, Result.andThen_ok, Sem.run_pure]
      cases ok with
      | false => exact ⟨rfl, z2⟩
      | true => exact ⟨by simp [Jo, zh, zq], by simp [Jo, WF, WFs, z2]⟩
    | some u =>
      rw [zg] at h
      cases h
      obtain ⟨j, e, q1, q2, q3, q4, _⟩ := r2
      have hu : WF β u := by rw [← q3]; exact (e1 e (List.mem_of_getElem? q1)).1
      rw [q4]
      simp only [Sem.run_bind, Result.andThen_ok, Sem.run_pure]
      cases ok with
      | false => exact ⟨rfl, hu⟩
      | true => exact ⟨by simp [Jo, zh, zq], by simp [Jo, WF, WFs, hu]⟩
  unfold zY Instr.lookup
  simp only [Sem.run_bind, zr hE hd, Result.andThen_ok]
  rcases e2 with ⟨rfl, rfl⟩ | ⟨r, arr, c, rfl, g1, g2⟩
  · have := key #[] rfl
    simp only [Sem.run_bind] at this
    rw [show zh β .nilmap = .map none from rfl]
    simp only [Sem.run_bind, Sem.run_pure, Result.andThen_ok]
    exact this
  · have := key arr g2
    simp only [Sem.run_bind] at this
    rw [show zh β (.map r) = .map (some (β.blk r)) from rfl]
    simp only [Sem.run_bind, MapKept.run_getObj_map g1, Result.andThen_ok, Sem.run_pure]
    exact this
omit hE in
theorem Kc {k:zd}{v:zd}:∀ {es:Xu}{j:Nat}{e:zd×zd×Nat},es[j]? = some e→qs k e.1=true→(∀ j' e',j'<j→es[j']? = some e'→qs k e'.1=false) →
  uo k v es=es.set j (e.1,v,e.2.2)
 | [],j,e,h,_,_=>by cases h
 | x::es,j,e,h,hk,hn=>by
  have hm:uo k v (x::es)=ifB (qs k x.1) ((x.1,v,x.2.2)::es) (x::uo k v es):=rfl
  rw [hm]
  cases j with
  | zero=>
   cases h
   rw [hk,qI];rfl
  | succ j=>
   rw [hn 0 x (by omega) rfl,yq,Kc (j:=j) (e:=e) (by simpa using h) hk (fun j' e' h1 h2=>hn (j'+1) e' (by omega) (by simpa using h2))]
   rfl
omit hE in
theorem J7 (β:Inj) (n:Nat):∀ {l:List zd},l.all jE=true→((zq β l).zip (zq β l)).all (fun (x,y)=>Instr.sameBits n x y)=true
 | [],_=>rfl
 | v::l,h=>by
  rw [List.all_cons,Bool.and_eq_true]at h
  have:=J7 β n h.2
  rw [zq,List.zip_cons_cons,List.all_cons,this]
  have h1:=h.1
  cases v<;>first | (cases h1;done) | (cases n<;>simp [zh,Instr.sameBits,MapKept.bytes_beq])
omit hE in
theorem aN (β:Inj) {v:zd} (h:WH v=true):Instr.sameBits 10000 (zh β v) (zh β v)=true:=by
 cases v
 case agg l=>
  have h:l.all jE=true:=by have h:ZF jE l=true:=h;rwa [Ze]at h
  have:=J7 β 9999 h
  show ((zq β l).toArray.size==(zq β l).toArray.size&&_)=true
  simpa using this
 all_goals first | (cases h;done) | (simp [zh,Instr.sameBits,MapKept.bytes_beq])
theorem gj {d:TypeDesc}{k:zd} (h:JR E d k=true):WH k=true:=by
 have _:=hE
 cases k
 case agg l=>
  have hf:zH (ZF jE l) (zt (k8 d) (zt (yw d) false fun q=>gl E l q) fun fs=>Qo E l fs)=true:=h
  rw [zB,Bool.and_eq_true]at hf
  exact hf.1
 all_goals first | rfl | cases h
omit hE in
theorem J3 {v:zd} (h:jE v=true):qs v v=true:=by
 cases v<;>first | (cases h;done) | simp [qs,QV,zB,ZP,YX,Vo]
omit hE in
theorem Jc:∀ {l:List zd},l.all jE=true→yg l l=true
 | [],_=>by simp [yg]
 | v::l,h=>by
  rw [List.all_cons,Bool.and_eq_true]at h
  simp [yg,zB,J3 h.1,Jc h.2]
omit hE in
theorem J4 {v:zd} (h:WH v=true):qs v v=true:=by
 cases v
 case agg l=>
  have h:l.all jE=true:=by have h:ZF jE l=true:=h;rwa [Ze]at h
  simp [qs,Jc h]
 all_goals exact J3 h
theorem Qr {β:Inj} (hF:qd E β) {H H':Heap}{w:World} (hR:Rel E.P β H w) {t:TypeId}{m k v:zd} (h:KV E H t m k v=some H') (hm:WF β m) (hk:WF β k) (hv:WF β v) :
  ∃ w',(Instr.mapUpdate t (zh β m) (zh β k) (zh β v)).run E.P w = .ok () w'∧Rel E.P β H' w'∧Ext β H w β H' w':=by
 replace h:=zf h
 obtain ⟨d,hd,h⟩:=h
 replace h:=zf h
 obtain ⟨q,hq,h⟩:=h
 have:=Vu hq
 subst this
 replace h:=zf h
 obtain ⟨kd,hkd,h⟩:=h
 replace h:=zl h
 obtain ⟨hks,h⟩:=h
 replace h:=zf h
 obtain ⟨r,hr,h⟩:=h
 have:=Xl hr
 subst this
 replace h:=zf h
 obtain ⟨b,hb,h⟩:=h
 replace h:=zf h
 obtain ⟨p,hp,h⟩:=h
 replace h:=zl h
 obtain ⟨h60,h⟩:=h
 rw [zN,decide_eq_true_eq]at h60
 replace h:=zf h
 obtain ⟨f,hf,h⟩:=h
 cases h
 cases b with
 | cells _ _ _=>cases hp
 | loop _ _ _ _ _ _ _ _=>cases hp
 | siter _ _=>cases hp
 | text _ _=>cases hp
 | pack _ _ _=>cases hp
 | ints _ _=>cases hp
 | view _=>cases hp
 | map es c=>
  cases hp
  obtain ⟨y,hy⟩:=Option.isSome_iff_exists.1 hm
  obtain ⟨arr,a1,a2,a3⟩:=hR.blk r _ y hb hy
  have hyb:β.blk r=y.1:=by simp [Inj.blk,hy]
  have a1':w.heap[β.blk r]? = some (.map arr c):=by rw [hyb];exact a1
  have hlt:=(Array.getElem?_eq_some_iff.1 a1').1
  have ht:∀ o,ZG y.1 w { w with heap:=w.heap.setIfInBounds (β.blk r) o }:=fun o=>
   ⟨fun i hi=>by simp only [Array.getElem?_setIfInBounds];rw [if_neg (by rw [hyb];exact fun e=>hi e.symm)],by simp,rfl,rfl,rfl⟩
  have hat:∀ o,({ w with heap:=w.heap.setIfInBounds (β.blk r) o }:World).heap[y.1]? = some o:=fun o=>by
   rw [← hyb];simp [hlt]
  obtain ⟨u,r1,r2⟩:=We hE hF hkd hks hk w es 0 f hf (fun e he=>(a3 e he).2.1)
  rw [← a2]at r1
  have r1':(Instr.findKey q.1 (zh β k) arr.toList).run E.P w = .ok u w:=by rw [Zu (jT hE hkd),r1]
  have hck:=run_checkKey hE (w:=w) (b:=false) hkd hks hk
  have hko:=gj hE hks
  unfold Instr.mapUpdate
  rw [show zh β (.map r) = .map (some (β.blk r)) from rfl]
  simp only [Sem.run_bind,zr hE hd,Result.andThen_ok,MapKept.run_getObj_map a1',hck,r1']
  unfold rC
  cases f with
  | none=>
   rw [show u=none from r2,zm]
   have hset:=MapKept.run_setObj_map (P:=E.P) (w:=w) (.map (arr.push { key:=zh β k,val:=zh β v,born:=c }) (c+1)) a1'
   refine ⟨_,hset,?_⟩
   refine hR.oG h60 hb hy (ht _) ⟨_,hat _,?_,?_⟩
   ·rw [Array.toList_push,a2,qy,List.map_append];rfl
   ·intro e he
    rw [qy]at he
    rcases List.mem_append.1 he with he | he
    ·exact a3 e he
    ·rw [List.mem_singleton.1 he];exact ⟨hv,hk,hko⟩
  | some val=>
   obtain ⟨j,e,q1,q2,q3,q4,q5⟩:=r2
   rw [q4,zg]
   have hej:arr[0+j]? = some (yI β e):=by
    rw [Nat.zero_add,← Array.getElem?_toList,a2,List.getElem?_map,q1];rfl
   have hsame:Instr.sameBits 10000 (yI β e).key (zh β k)=true:=by
    show Instr.sameBits 10000 (zh β e.1) (zh β k)=true
    rw [q2];exact aN β hko
   have hset:=MapKept.run_setObj_map (P:=E.P) (w:=w) (.map (arr.modify (0+j) fun e=>{ e with key:=zh β k,val:=zh β v }) c) a1'
   refine ⟨{ w with heap:=w.heap.setIfInBounds (β.blk r) (.map (arr.modify (0+j) fun e=>{ e with key:=zh β k,val:=zh β v }) c) },?_,?_⟩
   ·simp only [Sem.run_bind,hej,Option.map_some,Option.getD_some,Instr.keyThatStays,hsame,if_true,Sem.run_pure,Result.andThen_ok]
    exact hset
   refine hR.oG h60 hb hy (ht _) ⟨_,hat _,?_,?_⟩
   ·have hlk:qs k e.1=true:=by rw [q2];exact J4 hko
    rw [Kc q1 hlk q5]
    apply List.ext_getElem?
    intro n
    rw [Array.getElem?_toList,Array.getElem?_modify,Nat.zero_add,List.getElem?_map,List.getElem?_set]
    by_cases hn:j=n
    ·subst hn
     have:j<es.length:=(List.getElem?_eq_some_iff.1 q1).1
     rw [Nat.zero_add]at hej
     simp [hej,this,yI,q2]
    ·rw [if_neg hn,if_neg hn,← Array.getElem?_toList,a2,List.getElem?_map]
   ·intro e' he'
    have hlk:qs k e.1=true:=by rw [q2];exact J4 hko
    rw [Kc q1 hlk q5]at he'
    rcases List.mem_or_eq_of_mem_set he' with he' | rfl
    ·exact a3 e' he'
    ·exact ⟨hv,(a3 e (List.mem_of_getElem? q1)).2⟩
end
end
section
variable [Unk]
def Wn (E:Env) (β:Inj):Prop:=∀ fn q,E.alts.get fn=some q→∀ (i:Nat) l,q.2[i]? = some l→∃ alt∈l,∀ f∈alt,jw E.P E.zW β f
theorem Wn.mono {E:Env}{β β':Inj} (l:β.le β') (h:Wn E β):Wn E β':=fun fn q hq i x hx=>by
 obtain ⟨alt,h1,h2⟩:=h fn q hq i x hx
 exact ⟨alt,h1,fun f hf=>(h2 f hf).mono l⟩
theorem mf {E:Env}{β:Inj} (h:E.alts = .nil):Wn E β:=fun fn q hq=>by rw [h,Tr.get_nil]at hq;cases hq
structure QZ (E:Env) (β:Inj) (H:Heap):Prop where
 at_:∀ g,g<100→β g=some (Unk.place g)
 next:100≤H.next
 facts:qd E β
 zW:∀ p∈E.zW,p.1<100∧H.blk.get p.1=some p.2
 alts:Wn E β
theorem QZ.ext {E:Env}{β β':Inj}{H H':Heap}{w w':World} (h:QZ E β H) (hb:∀ id x,β id=some x→id<H.next) (e:Ext β H w β' H' w'):QZ E β' H' where
 at_:=fun g hg=>by rw [e.old g (Nat.lt_of_lt_of_le hg h.next)];exact h.at_ g hg
 next:=Nat.le_trans h.next e.next
 facts:=h.facts.mono (e.le hb)
 zW:=fun p hp=>⟨(h.zW p hp).1,(e.ro p.1 (h.zW p hp).1).trans (h.zW p hp).2⟩
 alts:=h.alts.mono (e.le hb)
def cA (P:Program) (β:Inj) (H:Heap) (w:World) (m:Sem Next) (v:zd) (H':Heap):Prop:=
 ∃ β' w' nx,m.run P w = .ok nx w'∧(nx = .value (zh β' v)∨(nx = .skip∧v=qN))∧WF β' v∧Rel P β' H' w'∧Ext β H w β' H' w'
theorem Sim.next {P:Program}{β:Inj}{H H':Heap}{w:World}{m:Sem Value}{v:zd} (h:Sim P β H w m v H'):cA P β H w (do pure (.value (← m))) v H':=by
 obtain ⟨β',w',h1,h2,h3,h4⟩:=h
 refine ⟨β',w',_,?_,.inl rfl,h2,h3,h4⟩
 simp only [Sem.run_bind,h1,Result.andThen_ok,Sem.run_pure]
theorem zY.next {P:Program}{β:Inj}{H:Heap}{w:World}{m:Sem Value}{v:zd} (hR:Rel P β H w) (h:zY P β w m v):cA P β H w (do pure (.value (← m))) v H:=(h.sim hR).next
theorem cA.skip {P:Program}{β β':Inj}{H H':Heap}{w w':World}{m:Sem Unit} (h1:m.run P w = .ok () w') (h2:Rel P β' H' w') (h3:Ext β H w β' H' w'):cA P β H w (do m;pure .skip) qN H':=by
 refine ⟨β',w',.skip,?_,.inr ⟨rfl,rfl⟩,by simp,h2,h3⟩
 simp only [Sem.run_bind,h1,Result.andThen_ok,Sem.run_pure]
theorem qD {H H':Heap}{x:Option zd}{v:zd} (h:yh H x=some (v,H')):x=some v∧H'=H:=by
 replace h:=zf h
 obtain ⟨a,ha,h⟩:=h
 cases h
 exact ⟨ha,rfl⟩
theorem yS {α β:Type}{l:List β}{r:Option α}{a:α} (h:l1 l r=some a):l=[]∧r=some a:=by
 cases l with
 | nil=>exact ⟨rfl,h⟩
 | cons b l=>cases h
section
variable {E:Env} (hE:jU E)
include hE
theorem K6 {β:Inj}{H H':Heap}{w:World} (hR:Rel E.P β H w) {b:Builtin}{ts:Array TypeId}{args:List zd}{v:zd} (h:Xq E H b ts.toList args=some (v,H')) (hx:WFs β args) (hF:qd E β)
  (ty:TypeId) (cs:Array Bool) (as:Array Value) (has:as.toList=zq β args):cA E.P β H w (builtin b ts ty cs as) v H':=by
 have has':as=(zq β args).toArray:=by rw [← has]
 subst has'
 unfold Xq at h
 cases args with
 | nil=>cases h
 | cons x r=>
  rw [kZ]at h
  obtain ⟨tl⟩:=ts
  cases tl with
  | nil=>cases h
  | cons t us=>
   simp only [kZ]at h
   obtain ⟨hx1,hx2⟩:=hx
   cases b<;>try (cases h;done)
   case append=>
    cases r with
    | nil=>cases h
    | cons y q=>
     cases us with
     | nil=>cases h
     | cons u vs=>
      simp only [kZ]at h
      replace h:=yS h
      obtain ⟨hnil,h⟩:=h
      subst hnil
      replace h:=yS h
      obtain ⟨hnil,h⟩:=h
      subst hnil
      exact (Ur hE hF hR h hx1 hx2.1 ty).next
   case cap=>
    replace h:=qD h
    obtain ⟨h,hHH⟩:=h
    subst hHH
    exact (iF hE h hx1 _ ty rfl _ rfl).next hR
   case clear=>
    replace h:=yS h
    obtain ⟨hnil,h⟩:=h
    subst hnil
    exact (cu hE hR h hx1 _ rfl ty).next
   case copy=>
    cases r with
    | nil=>cases h
    | cons y q=>
     simp only [kZ]at h
     replace h:=yS h
     obtain ⟨hnil,h⟩:=h
     subst hnil
     exact (eR hE hR h hx1 hx2.1 _ rfl ty).next
   case len=>
    replace h:=qD h
    obtain ⟨h,hHH⟩:=h
    subst hHH
    exact (iE hE hF hR h hx1 _ ty rfl _ rfl).next hR
   case max=>
    replace h:=qD h
    obtain ⟨h,hHH⟩:=h
    subst hHH
    cases hm:Ca r x with
    | some q=>
     rw [hm,zg]at h
     cases h
     exact (iB (w:=w) r x _ hm hx1 hx2).next hR
    | none=>
     rw [hm,zm]at h
     cases r with
     | nil=>cases h
     | cons y q=>
      replace h:=yS h
      obtain ⟨hnil,h⟩:=h
      subst hnil
      obtain ⟨f,hf,e⟩:=qh h
      have:=uv e
      subst this
      obtain ⟨h1,h2,h3,k,m,n,e1,e2,e3⟩:=hF _ hf
      have hg:zY E.P β w ((zq β [y]).foldlM Builtin.max2 (zh β x)) v:=⟨by simp [zq,e1,e2,e3,Builtin.max2],h3⟩
      exact hg.next hR
   case min=>
    replace h:=qD h
    obtain ⟨h,hHH⟩:=h
    subst hHH
    cases hm:B8 r x with
    | some q=>
     rw [hm,zg]at h
     cases h
     exact (iA (w:=w) r x _ hm hx1 hx2).next hR
    | none=>
     rw [hm,zm]at h
     cases r with
     | nil=>cases h
     | cons y q=>
      replace h:=yS h
      obtain ⟨hnil,h⟩:=h
      subst hnil
      obtain ⟨f,hf,e⟩:=qh h
      have:=uu e
      subst this
      obtain ⟨h1,h2,h3,k,m,n,e1,e2,e3⟩:=hF _ hf
      have hg:zY E.P β w ((zq β [y]).foldlM Builtin.min2 (zh β x)) v:=⟨by simp [zq,e1,e2,e3,Builtin.min2],h3⟩
      exact hg.next hR
   case unsafeSliceData=>
    replace h:=yS h
    obtain ⟨hnil,h⟩:=h
    subst hnil
    exact (Wl hR h hx1 _ ty).next
   case unsafeString=>
    cases r with
    | nil=>cases h
    | cons y q=>
     cases us with
     | nil=>cases h
     | cons u vs=>
      simp only [kZ]at h
      replace h:=yS h
      obtain ⟨hnil,h⟩:=h
      subst hnil
      replace h:=yS h
      obtain ⟨hnil,h⟩:=h
      subst hnil
      replace h:=zf h
      obtain ⟨p,hp,h⟩:=h
      have:=qU hp
      subst this
      replace h:=zl h
      obtain ⟨h1,h⟩:=h
      have:=ZA h1
      replace h:=qP h
      obtain ⟨n,hn,h⟩:=h
      replace h:=zl h
      obtain ⟨h2,h⟩:=h
      rw [zN,decide_eq_true_eq]at h2
      have hgo:=(Ut hE hR (it:=u) (ty:=ty) h hx1 (by omega)).next
      have hcv:zh β (.int p.1 p.2) = .int .i64 n:=by simp only [zh];rw [hn,ZA h1];rfl
      show cA E.P β H w (do pure (.value (← Builtin.unsafeString_ #[t,u] ty (zq β [x,.int p.1 p.2]).toArray))) v H'
      simp only [zq,hcv]
      exact hgo
def JB (T:Tr zd) (β:Inj) (ρ:Operand→Value) (l:Array Operand):Prop:=∀ x∈l,∀ v,ev T x=some v→ρ x=zh β v∧WF β v
omit hE in
theorem gC {T:Tr zd}{β:Inj}{ρ:Operand→Value}{o:Option Operand}{v:Option zd} (h:evO T o=some v) (hρ:∀ x∈o,∀ v,ev T x=some v→ρ x=zh β v∧WF β v) :
  o.map ρ=v.map (zh β):=by
 cases o with
 | none=>cases h;rfl
 | some x=>
  have h:(bnd (ev T x) fun v=>some (some v))=some v:=h
  replace h:=zf h
  obtain ⟨a,ha,h⟩:=h
  cases h
  rw [Option.map_some,(hρ x rfl a ha).1];rfl
theorem Ui {β:Inj}{H:Heap}{w:World} (hR:Rel E.P β H w) {t:TypeId}{r:Option Value} (hr:∀ v∈r,(∃ k n,v = .int k n)∧∃ q:TypeId×TypeId,E.desc t=some (.map q.1 q.2)) :
  Sim E.P β H w (Instr.makeMap t r) (.map H.next) ⟨H.blk.set H.next (.map [] 0),H.next+1⟩:=by
 obtain ⟨r1,r2⟩:=hR.add (.map [] 0) (.map #[] 0) 0 ⟨#[],j6 _ _,rfl,by intro e he;cases he⟩
 refine ⟨β.put H.next (w.heap.size,0,0),push w (.map #[] 0),?_,by simp [WF,Inj.zM],r1,r2⟩
 unfold Instr.makeMap
 have hc:zh (β.put H.next (w.heap.size,0,0)) (.map H.next) = .map (some w.heap.size):=by simp [zh,Inj.blk,Inj.zM]
 rw [hc]
 cases r with
 | none=>simp only [Sem.run_bind,run_newObj,Sem.run_pure,Result.andThen_ok];rfl
 | some v=>
  obtain ⟨⟨k,n,rfl⟩,q,hq⟩:=hr v rfl
  simp only [Sem.run_bind,zr hE hq,Result.andThen_ok,Go.asInt,asIntOf,run_newObj,Sem.run_pure]
  rfl
theorem decode_ascii {s:List Nat}{p c:Nat} (h:s[p]? = some c) (hc:c<128):Utf8.decode (str s) p=(c,1):=by
 have _:=hE
 have hp:=(List.getElem?_eq_some_iff.1 h).1
 have h0:((str s).get! p).toNat=c:=by
  have e:(str s).get! p=UInt8.ofNat c:=by
   show (str s).data[p]! = _
   have:(str s).data[p]? = some (UInt8.ofNat c):=by
    rw [← Array.getElem?_toList]
    simp [YH,h]
   rw [getElem!_def,this]
  rw [e]
  simp
  omega
 unfold Utf8.decode
 simp only [Nat.add_zero,h0]
 rw [if_pos (by omega)]
theorem db {β:Inj}{H:Heap}{w:World} (hR:Rel E.P β H w) {t:TypeId}{s:List Nat} (hd:E.desc t=some .string) (hs:∀ b∈s,b<256) :
  Sim E.P β H w (Instr.range t (.string (str s))) (.ptr H.next 0) ⟨H.blk.set H.next (.siter s 0),H.next+1⟩:=by
 obtain ⟨r1,r2⟩:=hR.add (.siter s 0) (.stringIter (str s) 0) 0 ⟨j6 _ _,rfl,hs⟩
 refine ⟨β.put H.next (w.heap.size,0,0),push w (.stringIter (str s) 0),?_,by simp [WF,Inj.zM],r1,r2⟩
 unfold Instr.range
 have hc:zh (β.put H.next (w.heap.size,0,0)) (.ptr H.next 0) = .pointer (some ⟨w.heap.size,0,none⟩):=by simp [zh,Inj.addr,Inj.blk,Inj.sh,Inj.zM]
 rw [hc]
 simp only [Sem.run_bind,zr hE hd,Result.andThen_ok,run_newObj,Sem.run_pure]
 rfl
theorem fU {β:Inj}{H H':Heap}{w:World} (hR:Rel E.P β H w) {b:Nat}{s:List Nat}{p:Nat}{v:zd} (hb:H.blk.get b=some (.siter s p)) (h60:100≤b) (hw:(β b).isSome) (h:Km H b s p=some (v,H')) (ty:TypeId) :
  Sim E.P β H w (Instr.next (zh β (.ptr b 0)) true ty) v H':=by
 obtain ⟨y,hy⟩:=Option.isSome_iff_exists.1 hw
 obtain ⟨a1,a2,a3⟩:=hR.blk b _ y hb hy
 have hyb:β.blk b=y.1:=by simp [Inj.blk,hy]
 have hc:zh β (.ptr b 0) = .pointer (some ⟨y.1,0,none⟩):=by simp [zh,Inj.addr,Inj.blk,Inj.sh,hy,a2]
 have hget:(getObj y.1).run E.P w = .ok (.stringIter (str s) p) w:=by simp [getObj,Sem.run,a1]
 have hset:∀ o,(setObj y.1 o).run E.P w = .ok () { w with heap:=w.heap.setIfInBounds y.1 o }:=fun o=>by simp [setObj,Sem.run,a1]
 have hlt:=(Array.getElem?_eq_some_iff.1 a1).1
 unfold Km at h
 rw [kb]at h
 unfold Instr.next
 rw [hc]
 cases hn:s[p]? with
 | none=>
  rw [hn,zm]at h
  cases h
  have hge:¬ p<(str s).size:=by rw [qK];exact Nat.not_lt.2 (List.getElem?_eq_none_iff.1 hn)
  refine zY.sim ⟨?_,by simp [WF,WFs]⟩ hR
  simp only [Sem.run_bind,hget,Result.andThen_ok]
  rw [if_neg hge]
  simp [zh,zq]
 | some c=>
  rw [hn,zg]at h
  replace h:=zl h
  obtain ⟨hc7,h⟩:=h
  rw [qo,decide_eq_true_eq]at hc7
  simp only [z7]at h
  cases h
  have hl:p<(str s).size:=by rw [qK];exact (List.getElem?_eq_some_iff.1 hn).1
  have ht:ZG y.1 w { w with heap:=w.heap.setIfInBounds y.1 (.stringIter (str s) (p+1)) }:=
   ⟨fun i hi=>by simp only [Array.getElem?_setIfInBounds];rw [if_neg (fun e=>hi e.symm)],by simp,rfl,rfl,rfl⟩
  obtain ⟨r1,r2⟩:=hR.oG (b':=.siter s (p+1)) h60 hb hy ht ⟨by simp [hlt],a2,a3⟩
  refine ⟨β,_,?_,by simp [WF,WFs],r1,r2⟩
  simp only [Sem.run_bind,hget,Result.andThen_ok]
  rw [if_pos hl,decode_ascii hE hn hc7]
  simp only [Sem.run_bind,hset,Result.andThen_ok,Sem.run_pure]
  simp [zh,zq,goInt]
theorem aA {β:Inj}{H H':Heap}{w:World} (hR:Rel E.P β H w) (hF:qd E β) {rec:Rec}{T:Tr zd}{o:Oper}{v:zd} (h:aop o.op E rec T H=some (v,H')) {ρ:Operand→Value}
  (hρ:JB T β ρ o.op.operands) (hc:∀ c,o.op = .call c→∃ b,c.callee = .builtin b):cA E.P β H w (execOp ρ o) v H':=by
 obtain ⟨dst,op,ty,pos,af,gd⟩:=o
 simp only at h hρ hc
 unfold execOp
 cases op
 case move x=>
  replace h:=qD h
  obtain ⟨h,hHH⟩:=h
  subst hHH
  obtain ⟨h1,h2⟩:=hρ x (by simp [Op.operands]) v h
  exact ⟨β,w,.value (ρ x),by simp,.inl (by rw [h1]),h2,hR,.refl _ _ _ hR.bnd⟩
 case assign x=>
  replace h:=qD h
  obtain ⟨h,hHH⟩:=h
  subst hHH
  obtain ⟨h1,h2⟩:=hρ x (by simp [Op.operands]) v h
  exact ⟨β,w,.value (ρ x),by simp,.inl (by rw [h1]),h2,hR,.refl _ _ _ hR.bnd⟩
 case pick c a b=>
  replace h:=zf h
  obtain ⟨u,hu,h⟩:=h
  replace h:=zf h
  obtain ⟨q,hq,h⟩:=h
  have:=yx hq
  subst this
  obtain ⟨g1,g2⟩:=hρ c (by simp [Op.operands]) _ hu
  cases q with
  | true=>
   rw [qI]at h
   replace h:=qD h
   obtain ⟨h,hHH⟩:=h
   subst hHH
   obtain ⟨h1,h2⟩:=hρ a (by simp [Op.operands]) v h
   refine ⟨β,w,.value (ρ a),?_,.inl (by rw [h1]),h2,hR,.refl _ _ _ hR.bnd⟩
   simp [g1,zh,Go.asBool]
  | false=>
   rw [yq]at h
   replace h:=qD h
   obtain ⟨h,hHH⟩:=h
   subst hHH
   obtain ⟨h1,h2⟩:=hρ b (by simp [Op.operands]) v h
   refine ⟨β,w,.value (ρ b),?_,.inl (by rw [h1]),h2,hR,.refl _ _ _ hR.bnd⟩
   simp [g1,zh,Go.asBool]
 case alloc t=>
  replace h:=zf h
  obtain ⟨z,hz,h⟩:=h
  have h:=jt h
  cases h
  exact (eJ hE hR hz).next
 case box t x=>
  replace h:=zf h
  obtain ⟨u,hu,h⟩:=h
  replace h:=zl h
  obtain ⟨_,h⟩:=h
  have h:=jt h
  cases h
  obtain ⟨g1,g2⟩:=hρ x (by simp [Op.operands]) _ hu
  simp only [g1]
  exact (og hR t g2).next
 case build t parts=>
  replace h:=zf h
  obtain ⟨z,hz,h⟩:=h
  replace h:=zf h
  obtain ⟨ps,hps,h⟩:=h
  replace h:=zf h
  obtain ⟨d,hd,h⟩:=h
  replace h:=zf h
  obtain ⟨l,hl,h⟩:=h
  cases h
  obtain ⟨g1,g2⟩:=Yq (ρ:=ρ) parts.toList ps hps (fun x hx v hv=>hρ x (by simpa [Op.operands] using hx) v hv)
  exact (eD hE hz hd hl g2 _ (by rw [Array.toList_map];exact g1)).next hR
 case buildSlice t len parts=>
  replace h:=zf h
  obtain ⟨d,hd,h⟩:=h
  replace h:=zf h
  obtain ⟨e,he,h⟩:=h
  have:=jk he
  subst this
  replace h:=zf h
  obtain ⟨ps,hps,h⟩:=h
  replace h:=zf h
  obtain ⟨s,hs,h⟩:=h
  replace h:=zf h
  obtain ⟨z,hz,h⟩:=h
  replace h:=zl h
  obtain ⟨hb,h⟩:=h
  rw [zB,Bool.and_eq_true,zN,decide_eq_true_eq,zG,beq_iff_eq,jz]at hb
  replace h:=zf h
  obtain ⟨l,hl,h⟩:=h
  replace h:=zl h
  obtain ⟨_,h⟩:=h
  have h:=jt h
  cases h
  obtain ⟨g1,g2⟩:=Yq (ρ:=ρ) parts.toList ps hps (fun x hx v hv=>hρ x (by simpa [Op.operands] using hx) v hv)
  exact (Wb hE hR hd hs hz hb.1 hb.2 hl g2 _ (by rw [Array.toList_map];exact g1)).next
 case insert t m k x=>
  replace h:=zf h
  obtain ⟨m',hm,h⟩:=h
  replace h:=zf h
  obtain ⟨k',hk,h⟩:=h
  replace h:=zf h
  obtain ⟨x',hx,h⟩:=h
  replace h:=zf h
  obtain ⟨H1,h1,h⟩:=h
  cases h
  obtain ⟨a1,a2⟩:=hρ m (by simp [Op.operands]) _ hm
  obtain ⟨b1,b2⟩:=hρ k (by simp [Op.operands]) _ hk
  obtain ⟨c1,c2⟩:=hρ x (by simp [Op.operands]) _ hx
  obtain ⟨w',r1,r2,r3⟩:=Qr hE hF hR h1 a2 b2 c2
  simp only [a1,b1,c1]
  exact .skip r1 r2 r3
 case mapUpdate t m k x=>
  replace h:=zf h
  obtain ⟨m',hm,h⟩:=h
  replace h:=zf h
  obtain ⟨k',hk,h⟩:=h
  replace h:=zf h
  obtain ⟨x',hx,h⟩:=h
  replace h:=zf h
  obtain ⟨H1,h1,h⟩:=h
  cases h
  obtain ⟨a1,a2⟩:=hρ m (by simp [Op.operands]) _ hm
  obtain ⟨b1,b2⟩:=hρ k (by simp [Op.operands]) _ hk
  obtain ⟨c1,c2⟩:=hρ x (by simp [Op.operands]) _ hx
  obtain ⟨w',r1,r2,r3⟩:=Qr hE hF hR h1 a2 b2 c2
  simp only [a1,b1,c1]
  exact .skip r1 r2 r3
 case load t a=>
  replace h:=zf h
  obtain ⟨u,hu,h⟩:=h
  replace h:=zf h
  obtain ⟨p,hp,h⟩:=h
  have:=j9 hp
  subst this
  replace h:=qD h
  obtain ⟨h,hHH⟩:=h
  subst hHH
  obtain ⟨g1,g2⟩:=hρ a (by simp [Op.operands]) _ hu
  obtain ⟨l1,l2⟩:=hR.loadVar hE h g2
  refine zY.next hR ⟨?_,l1⟩
  simp only [g1,zh,Instr.loadAt,Instr.sureAddr,Sem.run_bind,Sem.run_pure,Result.andThen_ok,l2]
 case store t a x=>
  replace h:=zf h
  obtain ⟨u,hu,h⟩:=h
  replace h:=zf h
  obtain ⟨p,hp,h⟩:=h
  have:=j9 hp
  subst this
  replace h:=zf h
  obtain ⟨y,hy,h⟩:=h
  replace h:=zf h
  obtain ⟨H1,h1,h⟩:=h
  cases h
  obtain ⟨g1,g2⟩:=hρ a (by simp [Op.operands]) _ hu
  obtain ⟨k1,k2⟩:=hρ x (by simp [Op.operands]) _ hy
  obtain ⟨w',r1,r2,r3⟩:=hR.storeVar hE h1 g2 k2
  refine .skip ?_ r2 r3
  simp only [g1,k1,zh,Instr.storeAt,Instr.sureAddr,Sem.run_bind,Sem.run_pure,Result.andThen_ok,r1]
 case nilCheck x=>
  replace h:=zf h
  obtain ⟨u,hu,h⟩:=h
  replace h:=kg h
  obtain ⟨h1,h⟩:=h
  cases h
  obtain ⟨g1,g2⟩:=hρ x (by simp [Op.operands]) _ hu
  refine ⟨β,w,.value (zh β v),?_,.inl rfl,g2,hR,.refl _ _ _ hR.bnd⟩
  simp only [g1]
  cases v<;>first | (cases h1;done) | simp [zh]
 case binOp op xt x y yt=>
  replace h:=zf h
  obtain ⟨a,ha,h⟩:=h
  replace h:=zf h
  obtain ⟨b,hb,h⟩:=h
  replace h:=qD h
  obtain ⟨h,hHH⟩:=h
  subst hHH
  obtain ⟨a1,a2⟩:=hρ x (by simp [Op.operands]) _ ha
  obtain ⟨b1,b2⟩:=hρ y (by simp [Op.operands]) _ hb
  simp only [a1,b1]
  exact zY.next hR (iH hE hF h a2 b2)
 case unOp op xt x=>
  replace h:=zf h
  obtain ⟨a,ha,h⟩:=h
  replace h:=qD h
  obtain ⟨h,hHH⟩:=h
  subst hHH
  obtain ⟨a1,a2⟩:=hρ x (by simp [Op.operands]) _ ha
  simp only [a1]
  rw [zu]at h
  split at h
  ·obtain ⟨f,hf,e⟩:=qh h
   obtain ⟨_,u2,u3⟩:=rF e (hF _ hf)
   exact zY.next hR ⟨u3 _,u2⟩
  ·exact zY.next hR (bU h)
 case convert s d x=>
  replace h:=zf h
  obtain ⟨a,ha,h⟩:=h
  obtain ⟨a1,a2⟩:=hρ x (by simp [Op.operands]) _ ha
  simp only [a1]
  rw [zu]at h
  split at h
  ·exact (Ue hE hF hR h a2).next
  ·exact (K5 hE hF hR h a2).next
 case makeInterface t x=>
  replace h:=zf h
  obtain ⟨d,hd,h⟩:=h
  replace h:=kg h
  obtain ⟨hi,h⟩:=h
  replace h:=zf h
  obtain ⟨a,ha,h⟩:=h
  cases h
  obtain ⟨a1,a2⟩:=hρ x (by simp [Op.operands]) _ ha
  refine zY.next hR ⟨?_,a2⟩
  simp only [a1,Instr.makeInterface,Sem.run_bind,zr hE hd,Result.andThen_ok]
  cases d<;>first | (cases hi;done) | simp [zh]
 case makeFunc f fi ca=>
  replace h:=zf h
  obtain ⟨g,hg,h⟩:=h
  replace h:=zf h
  obtain ⟨l,hl,h⟩:=h
  replace h:=zf h
  obtain ⟨m,hm,h⟩:=h
  cases h
  obtain ⟨a1,a2⟩:=bE (ρ:=ρ) fi.toList l hl (fun x hx v hv=>hρ x (by simp only [Op.operands,Array.mem_append];exact .inl (by simpa using hx)) v hv)
  obtain ⟨b1,b2⟩:=bE (ρ:=ρ) ca.toList m hm (fun x hx v hv=>hρ x (by simp only [Op.operands,Array.mem_append];exact .inr (by simpa using hx)) v hv)
  have hf:f = .func g:=by cases f<;>cases hg;rfl
  subst hf
  refine zY.next hR ⟨?_,a2,b2⟩
  simp only [Instr.makeFunc,Sem.run_pure,zh]
  rw [← a1,← b1,← Array.toList_map,← Array.toList_map]
 case range t x=>
  replace h:=zf h
  obtain ⟨d,hd,h⟩:=h
  replace h:=zl h
  obtain ⟨hds,h⟩:=h
  have:=qW hds
  subst this
  replace h:=zf h
  obtain ⟨u,hu,h⟩:=h
  replace h:=zf h
  obtain ⟨s,hs,h⟩:=h
  have:=qw hs
  subst this
  simp only [z7]at h
  cases h
  obtain ⟨a1,a2⟩:=hρ x (by simp [Op.operands]) _ hu
  simp only [a1]
  exact (db hE hR hd a2).next
 case next it isS=>
  replace h:=zl h
  obtain ⟨his,h⟩:=h
  subst his
  replace h:=zf h
  obtain ⟨u,hu,h⟩:=h
  replace h:=zf h
  obtain ⟨p,hp,h⟩:=h
  have:=j9 hp
  subst this
  obtain ⟨b,off⟩:=p
  cases off with
  | succ n=>rw [JM]at h;cases h
  | zero=>
   rw [XZ]at h
   replace h:=zf h
   obtain ⟨bl,hbl,h⟩:=h
   replace h:=zf h
   obtain ⟨q,hq,h⟩:=h
   have:bl = .siter q.1 q.2:=by cases bl<;>cases hq;rfl
   subst this
   replace h:=zl h
   obtain ⟨h60,h⟩:=h
   rw [zN,decide_eq_true_eq]at h60
   obtain ⟨a1,a2⟩:=hρ it (by simp [Op.operands]) _ hu
   simp only [a1]
   exact (fU hE hR hbl h60 a2 h ty).next
 case makeMap t r=>
  replace h:=zf h
  obtain ⟨_,h1,h⟩:=h
  simp only [z7]at h
  cases h
  refine (Ui hE hR fun y hy=>?_).next
  cases r with
  | none=>cases hy
  | some x=>
   rw [Option.map_some]at hy
   cases hy
   rw [zg]at h1
   replace h1:=zf h1
   obtain ⟨a,ha,h1⟩:=h1
   replace h1:=zf h1
   obtain ⟨p,hp,h1⟩:=h1
   have:=qU hp
   subst this
   replace h1:=zf h1
   obtain ⟨d,hd,h1⟩:=h1
   replace h1:=zf h1
   obtain ⟨q,hq,h1⟩:=h1
   have:=Vu hq
   subst this
   exact ⟨⟨p.1,p.2,(hρ x (by simp [Op.operands]) _ ha).1⟩,q,hd⟩
 case makeSlice t l c=>
  replace h:=zf h
  obtain ⟨d,hd,h⟩:=h
  replace h:=zf h
  obtain ⟨e,he,h⟩:=h
  have:=jk he
  subst this
  replace h:=zf h
  obtain ⟨a,ha,h⟩:=h
  replace h:=zf h
  obtain ⟨b,hb,h⟩:=h
  replace h:=zf h
  obtain ⟨p,hp,h⟩:=h
  have:=qU hp
  subst this
  replace h:=zl h
  obtain ⟨hi,h⟩:=h
  replace h:=qP h
  obtain ⟨n,hn,h⟩:=h
  replace h:=zf h
  obtain ⟨q,hq,h⟩:=h
  have:=qU hq
  subst this
  replace h:=zl h
  obtain ⟨hj,h⟩:=h
  replace h:=qP h
  obtain ⟨m,hm,h⟩:=h
  obtain ⟨a1,a2⟩:=hρ l (by simp [Op.operands]) _ ha
  obtain ⟨b1,b2⟩:=hρ c (by simp [Op.operands]) _ hb
  simp only [a1,b1,zh,ZA hi,ZA hj,hn,hm]
  exact (Uh hE hR hd h).next
 case slice t x lo hi mx=>
  replace h:=zf h
  obtain ⟨a,ha,h⟩:=h
  replace h:=zf h
  obtain ⟨l,hl,h⟩:=h
  replace h:=zf h
  obtain ⟨u,hu,h⟩:=h
  replace h:=zf h
  obtain ⟨m,hm,h⟩:=h
  replace h:=qD h
  obtain ⟨h,hHH⟩:=h
  subst hHH
  obtain ⟨a1,a2⟩:=hρ x (by simp [Op.operands]) _ ha
  have b1:=gC (ρ:=ρ) (β:=β) hl (fun y hy v hv=>hρ y (by simp only [Op.operands,Array.mem_append];exact .inl (.inl (.inr (by simpa using hy)))) v hv)
  have c1:=gC (ρ:=ρ) (β:=β) hu (fun y hy v hv=>hρ y (by simp only [Op.operands,Array.mem_append];exact .inl (.inr (by simpa using hy))) v hv)
  have d1:=gC (ρ:=ρ) (β:=β) hm (fun y hy v hv=>hρ y (by simp only [Op.operands,Array.mem_append];exact .inr (by simpa using hy)) v hv)
  simp only [a1,b1,c1,d1]
  exact zY.next hR (bV hE hF h a2)
 case fieldAddr s x f=>
  replace h:=zf h
  obtain ⟨d,hd,h⟩:=h
  replace h:=zf h
  obtain ⟨fs,hfs,h⟩:=h
  replace h:=zf h
  obtain ⟨fl,hfl,h⟩:=h
  replace h:=zf h
  obtain ⟨a,ha,h⟩:=h
  replace h:=zf h
  obtain ⟨p,hp,h⟩:=h
  replace h:=qD h
  obtain ⟨h,hHH⟩:=h
  subst hHH
  obtain ⟨a1,a2⟩:=hρ x (by simp [Op.operands]) _ ha
  simp only [a1]
  exact zY.next hR (Um hE hd hfs hfl hp h a2)
 case field t x f=>
  replace h:=zf h
  obtain ⟨d,hd,h⟩:=h
  replace h:=zf h
  obtain ⟨fs,hfs,h⟩:=h
  replace h:=zf h
  obtain ⟨fl,hfl,h⟩:=h
  replace h:=zf h
  obtain ⟨a,ha,h⟩:=h
  replace h:=zf h
  obtain ⟨p,hp,h⟩:=h
  replace h:=qD h
  obtain ⟨h,hHH⟩:=h
  subst hHH
  obtain ⟨a1,a2⟩:=hρ x (by simp [Op.operands]) _ ha
  simp only [a1]
  exact zY.next hR (cq hE hd hfs hfl hp h a2)
 case indexAddr t x i=>
  replace h:=zf h
  obtain ⟨a,ha,h⟩:=h
  replace h:=zf h
  obtain ⟨b,hb,h⟩:=h
  replace h:=qD h
  obtain ⟨h,hHH⟩:=h
  subst hHH
  obtain ⟨a1,a2⟩:=hρ x (by simp [Op.operands]) _ ha
  obtain ⟨b1,b2⟩:=hρ i (by simp [Op.operands]) _ hb
  simp only [a1,b1]
  exact zY.next hR (Wj hE hF h a2)
 case index t x i=>
  replace h:=zf h
  obtain ⟨a,ha,h⟩:=h
  replace h:=zf h
  obtain ⟨b,hb,h⟩:=h
  replace h:=qD h
  obtain ⟨h,hHH⟩:=h
  subst hHH
  obtain ⟨a1,a2⟩:=hρ x (by simp [Op.operands]) _ ha
  obtain ⟨b1,b2⟩:=hρ i (by simp [Op.operands]) _ hb
  simp only [a1,b1]
  rw [zu]at h
  split at h
  ·exact zY.next hR (VP hE hF h)
  ·exact zY.next hR (cm hE h a2)
 case lookup t x k ok=>
  replace h:=zf h
  obtain ⟨a,ha,h⟩:=h
  replace h:=zf h
  obtain ⟨b,hb,h⟩:=h
  replace h:=qD h
  obtain ⟨h,hHH⟩:=h
  subst hHH
  obtain ⟨a1,a2⟩:=hρ x (by simp [Op.operands]) _ ha
  obtain ⟨b1,b2⟩:=hρ k (by simp [Op.operands]) _ hb
  simp only [a1,b1]
  exact zY.next hR (Uq hE hF hR h a2 b2)
 case typeAssert x xt at_ ok=>
  replace h:=zf h
  obtain ⟨d,hd,h⟩:=h
  replace h:=kg h
  obtain ⟨hi,h⟩:=h
  replace h:=zf h
  obtain ⟨a,ha,h⟩:=h
  replace h:=zf h
  obtain ⟨p,hp,h⟩:=h
  have:=KT hp
  subst this
  replace h:=zl h
  obtain ⟨ht,h⟩:=h
  rw [zG,beq_iff_eq]at ht
  cases h
  obtain ⟨a1,a2⟩:=hρ x (by simp [Op.operands]) _ ha
  have a2:WF β p.2:=a2
  refine zY.next hR ⟨?_,?_⟩
  ·simp only [a1,Instr.typeAssert,Sem.run_bind,zr hE hd,Result.andThen_ok,zh,ht]
   cases d<;>first | (cases hi;done) | (cases ok<;>simp [Jo,zh,zq])
  ·cases ok with
   | false=>exact a2
   | true=>exact ⟨a2,trivial,trivial⟩
 case extract x i=>
  replace h:=zf h
  obtain ⟨a,ha,h⟩:=h
  replace h:=zf h
  obtain ⟨l,hl,h⟩:=h
  replace h:=qD h
  obtain ⟨h,hHH⟩:=h
  subst hHH
  obtain ⟨a1,a2⟩:=hρ x (by simp [Op.operands]) _ ha
  simp only [a1]
  exact zY.next hR (KY hl h a2)
 case call c=>
  obtain ⟨b,hb⟩:=hc c rfl
  obtain ⟨ce,as,ts⟩:=c
  simp only at hb
  subst hb
  replace h:=zf h
  obtain ⟨vs,hvs,h⟩:=h
  obtain ⟨g1,g2⟩:=bE (ρ:=ρ) as.toList vs hvs (fun x hx v hv=>hρ x (by simpa [Op.operands,Call.operands] using hx) v hv)
  obtain ⟨β',w',nx,s1,s2⟩:=K6 hE hR h g2 hF ty (as.map fun | .const _=>true | _=>false) (as.map ρ) (by rw [Array.toList_map];exact g1)
  refine ⟨β',w',nx,?_,s2⟩
  simp only [resolve,Sem.run_bind,Sem.run_pure,Result.andThen_ok,invoke]
  exact s1
 case ready=>cases h
 case waits=>cases h
 case sliceToArrayPointer=>cases h
 case makeChan=>cases h
 case mapEntry=>cases h
 case entryStore=>cases h
 case entry=>cases h
 case go=>cases h
 case defer=>cases h
 case panic=>cases h
 case send=>cases h
 case recv=>cases h
 case select=>cases h
end
end
end Go.AEv
