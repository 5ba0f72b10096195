/- Trails of an audit: calls and runs (L1b). Conditions: those of each theorem. -/
import Derived.Test.YtaffhpgaagnjfaaGreatDoorL1a
import Derived.ArgAppend
import Derived.Deep.Upon
import Derived.Test.YtaffhpgaagnjfaaGreatDoorH0x11
import Derived.Test.YtaffhpgaagnjfaaGreatDoorH0x12
import Derived.Test.YtaffhpgaagnjfaaGreatDoorH0x5
import Derived.Test.YtaffhpgaagnjfaaGreatDoorH0x4
import Derived.Test.YtaffhpgaagnjfaaGreatDoorH0x22
import Derived.Test.YtaffhpgaagnjfaaGreatDoorH0x21
import Derived.Test.YtaffhpgaagnjfaaGreatDoorH0x27
import Derived.Lib.Walk
import Derived.Stop.BytesEq
import Derived.Deep.MidRow
import Derived.Lib.Hide
import Derived.IntWalk
import Derived.Laws.Bits64b
import Derived.Laws.BitsLemmas
open List Nat Option Array Go.World Go.Proofs.Tryz Go.IntWalk
set_option maxHeartbeats 2000000
set_option linter.unusedSectionVars false
namespace Go.AEv
noncomputable section
open Go.Proofs
open Go.AuditPlain (put qA zt qk numbers zig)
abbrev Ent:=zy×Value×Value
namespace TR
open KS (dg)
open KT (zF J7 tb)
def ZB(e:Ent):List Value:=e.1.l1++e.2.1::e.2.2::e.1.l2
theorem Kl(e:Ent):(ZB e).length=14:=rfl
def cellsOf(es:List Ent):List Value:=es.flatMap ZB
theorem yM(es:List Ent):(cellsOf es).length=14*es.length:=by
 unfold cellsOf
 induction es with
 | nil=>rfl
 | cons e es a=>rw[flatMap_cons,length_append,a,Kl,length_cons];omega
theorem V5(es:List Ent)(e:Ent):cellsOf (es++[e])=cellsOf es++ZB e:=by unfold cellsOf;rw[List.flatMap_append,List.flatMap_singleton]
def zex(s:ByteArray)(i:Nat):Nat:=match s.data[i]? with|some c=>c.toNat|none=>0
theorem zpx(s:ByteArray)(i:Nat):zex s i<256:=by
 unfold zex;split
 .exact UInt8.toNat_lt _
 .decide
def zj9(R:zy)(i:Nat):Nat:=zex (str R.qi.bytes) i
def zcL(h:Nat->Nat)(R:zy):Nat->Nat:=J7 R.qi.bytes.length h (zj9 R)
def qN(Rs:List zy):Nat->Nat:=Rs.foldl zcL (dg 6 tb)
theorem zdr(Rs:List zy)(R:zy):qN (Rs++[R])=zcL (qN Rs) R:=by unfold qN;rw[List.foldl_append];rfl
def VS(Rs:List zy):List Value:=(List.range (32*(Rs.length+1))).map fun i=>.int .u8 (qN (Rs.take (i / 32)) (i % 32):Nat)
theorem zkI(Rs:List zy)(R:zy):VS (Rs++[R])=VS Rs++zF 32 (qN (Rs++[R])):=by
 unfold VS zF;rw[length_append,show 32*(Rs.length+[R].length+1)=32*(Rs.length+1)+32 by simp;omega,List.range_add,List.map_append,List.map_map];congr 1
 .refine List.map_congr_left fun i hi=>?_;have hi:=List.mem_range.1 hi;rw[take_append_of_le_length (by omega)]
 .refine List.map_congr_left fun i hi=>?_;have hi:=List.mem_range.1 hi;show Value.int .u8 (qN ((Rs++[R]).take ((32*(Rs.length+1)+i) / 32)) ((32*(Rs.length+1)+i) % 32):Nat)=_;rw[show(32*(Rs.length+1)+i) / 32=Rs.length+1 by omega,show(32*(Rs.length+1)+i) % 32=i by omega,take_of_length_le (by simp)]
theorem zkJ(Rs:List zy):(List.range 32).map (fun i=>Value.int .u8 (qN (Rs.take ((32*Rs.length+i) / 32)) ((32*Rs.length+i) % 32):Nat))=zF 32 (qN Rs):=by
 unfold zF;refine List.map_congr_left fun i hi=>?_;have hi:=List.mem_range.1 hi;rw[show(32*Rs.length+i) / 32=Rs.length by omega,show(32*Rs.length+i) % 32=i by omega,take_length]
def jo(w:World)(es:List Ent):Prop:=∀e∈es,AtS w e.2.1 e.1.up/\AtS w e.2.2 e.1.down
def yC(w:World)(t:TypeId)(v:Value)(es:List Ent):Prop:=
 (es=[]->v = .slice none 0 0)/\(es≠[]->∃x:Nat×Nat×Nat,v = .slice (some ⟨x.1,x.2.1,none⟩) es.length (es.length+x.2.2)/\zw prog w x t (cellsOf es))
structure zU(B:Nat->Prop)(w:World)(v:Value)(es:List Ent):Prop where
 ex:∃(x h:Nat×Nat×Nat) (r:Value),v = .pointer (some ⟨x.1,x.2.1,none⟩)/\zw prog w x 96 [r,.slice (some ⟨h.1,h.2.1,none⟩) (es.length+1) (es.length+1+h.2.2)]/\zw prog w h 29 (VS (es.map (·.1)))/\yC w 42 r es/\B x.1/\B h.1/\∀p n m,r = .slice (some p) n m->B p.block
 lists:jo w es
structure qy(w w2:World):Prop where
 old:∀(c:Nat) (arr:Array Value) (t:TypeId) (fz:Nat×Nat),w.heap[c]?=some (Obj.cells arr t fz)->t≠96->t≠42->t≠29->t≠86->w2.heap[c]?=w.heap[c]?
 size:w.heap.size<=w2.heap.size
 tape:w2.tape=w.tape
 os:w2.os=w.os
 output:w2.output=w.output
theorem qy.trans{a b c:World}(h:qy a b)(k:qy b c):qy a c:=
 ⟨fun x arr t fz h1 h2 h3 f d=>by have e:=h.old x arr t fz h1 h2 h3 f d;rw[k.old x arr t fz (e ▸ h1) h2 h3 f d,e],Nat.le_trans h.size k.size,k.tape.trans h.tape,k.os.trans h.os,k.output.trans h.output⟩
theorem qy.qt{w w2:World}(h:Grown w w2):qy w w2:=
 ⟨fun c _arr _t _fz h1 _ _ _ _=>h.old c (Array.getElem?_eq_some_iff.1 h1).1,h.size,h.tape,h.os,h.output⟩
theorem WU{w w2:World}{v:Value}{o:Option ByteArray}(h:AtS w v o)(a:∀(c:Nat) (arr:Array Value) (fz:Nat×Nat),w.heap[c]?=some (Obj.cells arr 3 fz)->w2.heap[c]?=w.heap[c]?):AtS w2 v o:=by
 cases o with
 | none=>exact h
 | some s=>
  obtain⟨x,arr,fz,k⟩:=h;exact⟨x,arr,fz,k.is,by rw[a _ _ _ k.row];exact k.row,k.cap,k.size,k.cell,k.thaw⟩
theorem qy.atS{w w2:World}(k:qy w w2){v:Value}{o:Option ByteArray}(h:AtS w v o):AtS w2 v o:=
 WU h fun c arr fz e=>k.old c arr 3 fz e (by decide) (by decide) (by decide) (by decide)
theorem qy.lists{w w2:World}(k:qy w w2){es:List Ent}(h:jo w es):jo w2 es:=fun e he=>⟨k.atS (h e he).1,k.atS (h e he).2⟩
def Zy(B:Nat->Prop)(w w2:World):Prop:=(∀(c:Nat) (arr:Array Value) (t:TypeId) (fz:Nat×Nat),w.heap[c]?=some (Obj.cells arr t fz)->t≠96->t≠42->t≠29->w2.heap[c]?=w.heap[c]?)/\∀c,c<w.heap.size->¬B c->w2.heap[c]?=w.heap[c]?
def Vu(v:Value)(w w2:World):Prop:=∀(c:Nat),c<w.heap.size->(∀(p:Addr) (n m:Nat),v = .slice (some p) n m->p.block≠c)->w2.heap[c]?=w.heap[c]?
theorem zw.lt{P:Program}{w:World}{x:Nat×Nat×Nat}{t:TypeId}{vs:List Value}(h:zw P w x t vs):x.1<w.heap.size:=by
 obtain⟨arr,fz,h1,_⟩:=h;exact(Array.getElem?_eq_some_iff.1 h1).1
theorem zw.ne{P:Program}{w:World}{x y:Nat×Nat×Nat}{t u:TypeId}{vs us:List Value}(h:zw P w x t vs)(k:zw P w y u us)(a:t≠u):x.1≠y.1:=by
 obtain⟨arr,fz,h1,_⟩:=h;obtain⟨b,d,c,_⟩:=k;intro e;rw[e,c]at h1;simp only[Option.some.injEq,Obj.cells.injEq]at h1;exact a h1.2.1.symm
theorem kU{w w2:World}(g:Grown w w2){x:Nat×Nat×Nat}{t:TypeId}{vs:List Value}(h:zw prog w x t vs):zw prog w2 x t vs:=@zw.heap unk0 _ _ _ _ _ _ h (g.old _ (zw.lt h))
theorem VU{w w2:World}(g:Grown w w2){t:TypeId}{v:Value}{es:List Ent}(h:yC w t v es):yC w2 t v es:=
 ⟨h.1,fun hn=>by obtain⟨x,e,k⟩:=h.2 hn;exact⟨x,e,kU g k⟩⟩
theorem Zw{B:Nat->Prop}{w w2:World}(g:Grown w w2){v:Value}{es:List Ent}(h:zU B w v es):zU B w2 v es:=by
 obtain⟨⟨x,hd,r,h1,h2,h3,a⟩,b⟩:=h;exact⟨⟨x,hd,r,h1,kU g h2,kU g h3,VU g a.1,a.2⟩,(qy.qt g).lists b⟩
def bars(x R:zy):Prop:=x.tenant=R.tenant/\(R.version<x.version\/x.version=R.version/\x.day≠R.day)
open Classical in
def qZ(Rs:List zy)(R:zy):Nat:=
 if R.number≠(Rs.length+1:Nat)\/R.version<0\/30000<R.day then 2 else if R.err≠0 then R.err else if ∃x∈Rs,bars x R then 7 else 0
theorem ziQ{Rs:List zy}{R:zy}(hR:R.Ok)(h:qZ Rs R=0):EN.Good R/\R.number=(Rs.length+1:Nat)/\R.day<=30000/\∀x∈Rs,¬bars x R:=by
 unfold qZ at h;split at h
 .cases h
 .rename_i h1;split at h
  .rename_i h2;exact absurd h h2
  .rename_i h2;split at h
   .cases h
   .rename_i h3;have h2:R.err=0:=Classical.not_not.1 h2;refine⟨⟨hR,?_,h2⟩,Classical.byContradiction fun hn=>h1 (.inl hn),?_,fun x hx hb=>h3 ⟨x,hx,hb⟩⟩
    .rcases Int.lt_or_le R.version 0 with hh|hh
     .exact absurd (.inr (.inl hh)) h1
     .exact hh
    .rcases Int.lt_or_le 30000 R.day with hh|hh
     .exact absurd (.inr (.inr hh)) h1
     .exact hh
theorem zs3{v:Nat}(h:v<16384):(put v).length<=2:=by
 by_cases h1:v<128 ^ 1
 .rw[GR.Ja (c:=0) h1 (.inl rfl)];exact(by decide:1<=2)
 .rw[GR.Ja (c:=1) (show v<128 ^ 2 from h) (.inr (by omega))];exact(by decide:2<=2)
theorem zhN{v:Nat}(h:v<128):(put v).length=1:=by rw[ZE h];rfl
theorem KQ{s:ByteArray}(h:isN s=true):s.size<=12:=by
 have hm:=EN.zbH (show kE (zA s) Xg=true from h);have a:(Xg.all fun l=>Nat.ble l.length 12)=true:=by kernel_rfl
 have:=Nat.ble_eq.mp (List.all_eq_true.1 a _ hm);rwa[zW]at this
theorem zhP{s:ByteArray}(h:isP s=true):s.size<=6:=by
 have hm:=EN.zbH (show kE (zA s) Xc=true from h);have a:(Xc.all fun l=>Nat.ble l.length 6)=true:=by kernel_rfl
 have:=Nat.ble_eq.mp (List.all_eq_true.1 a _ hm);rwa[zW]at this
theorem zcq:∀(l:List Nat),(∀a∈l,a<=63)->(AuditPlain.qb l).length=l.length
 | [],_=>rfl
 | a::l,h=>by
  have h1:=h a mem_cons_self;have:=zcq l fun b hb=>h b (mem_cons_of_mem _ hb);unfold AuditPlain.qb at this ⊢;rw[flatMap_cons,length_append,this,zhN (by omega),length_cons];omega
theorem Qs{R:zy}(hR:R.Ok)(h:EN.Good R)(hd:R.day<=30000):16<=R.qi.bytes.length/\R.qi.bytes.length<88:=by
 obtain⟨_,g,c3,c4,c5,w⟩:=h.chain;obtain⟨f,p,e,d,o⟩:=h.name;have k:=zhN (v:=R.number.toNat) (by have:=hR.number;omega);have u:=EN.kK (v:=R.version.toNat) (by have:=hR.version;omega);have j:=EN.KC R.version.toNat;have t:=Zl (v:=R.day.toNat) (by have:=hR.day;omega);have r:=zs3 (v:=R.user.toNat) (by have:=hR.user;omega);have i:=EN.KC R.user.toNat
 have b:∀ {s:ByteArray},s.size<128->(zt (zA s)).length=1+s.size:=fun {s} hs=>by
  unfold AuditPlain.zt;rw[length_append,zW,zhN hs]
 have nl:∀l:List Nat,l.length<=5->(∀a∈l,a<=63)->(numbers l).length=1+l.length:=fun l h1 h2=>by
  unfold AuditPlain.numbers;rw[length_append,zcq l h2,zhN (by omega)]
 have hs:(qA R.session).length=1:=by
  have:=h.name.2.1;unfold AuditPlain.qA AuditPlain.zig;rw[if_pos (by omega)];exact zhN (by have:=hR.session;omega)
 have t1:=EN.KO f;have t2:=KQ f;have y:=EN.KO e;have x:=KQ e;have n:=EN.zhO d;have m:=zhP d;have s1:=hR.at_.UP;unfold qo at g c3
 show 16<=(put R.number.toNat++(put R.version.toNat++(zt (zA R.tenant)++(qA R.session++(zt (zA R.action)++(zt (zA R.path)++(put R.day.toNat++(qk R.granted ++
  (put R.user.toNat++(numbers (zB R.up)++(numbers (zB R.down)++(zt (zA R.does)++(zt (zA R.at_)++qk R.deep))))))))))))).length/\(put R.number.toNat++(put R.version.toNat++(zt (zA R.tenant)++(qA R.session++(zt (zA R.action)++(zt (zA R.path)++(put R.day.toNat++(qk R.granted ++
  (put R.user.toNat++(numbers (zB R.up)++(numbers (zB R.down)++(zt (zA R.does)++(zt (zA R.at_)++qk R.deep))))))))))))).length<88
 simp only[length_append];rw[k,hs,b (s:=R.tenant) (by omega),b (s:=R.action) (by omega),b (s:=R.path) (by omega),b (s:=R.does) (by omega),b (s:=R.at_) (by omega),nl _ g (fun a c=>c5 a (List.mem_append_left _ c)),nl _ c3 (fun a c=>c5 a (List.mem_append_right _ c)),J4,J4];omega
end TR
end
section
open Go Go.Proofs
namespace TR
theorem ky(b:Nat):∀(vs:List Value) (o:Nat) (w:World) (arr:Array Value) (t:TypeId) (fz:Nat×Nat),w.heap[b]?=some (.cells arr t fz)->o+vs.length<=arr.size ->
  ∃a,(w.setCells b o vs).heap[b]?=some (.cells a t fz)/\a.size=arr.size/\(∀j,j<vs.length->a[o+j]?=vs[j]?)/\∀i,i<o\/o+vs.length<=i->a[i]?=arr[i]?
 | [],o,w,arr,t,fz,h,_=>⟨arr,h,rfl,fun j c=>absurd c (not_lt_zero _),fun _ _=>rfl⟩
 | v::r,o,w,arr,t,fz,h,hs=>by
  have hs:o+(r.length+1)<=arr.size:=hs
  have h1:(w.setCell ⟨b,o,none⟩ v).heap[b]?=some (.cells (arr.setIfInBounds o v) t fz):=by
   unfold World.setCell;rw[Array.getElem?_modify,if_pos rfl,h];rfl
  obtain⟨a,g1,e,f,d⟩:=ky b r (o+1) _ _ t fz h1 (by rw[size_setIfInBounds];omega);rw[size_setIfInBounds]at e;refine⟨a,g1,e,fun j c=>?_,fun i hi=>?_⟩
  .cases j with
   | zero=>
    rw[Nat.add_zero,d o (by omega),getElem?_setIfInBounds_self,if_pos (by omega)]
    rfl
   | succ j=>
    have:=f j (by simpa using c);rw[show o+(j+1)=o+1+j by omega,this];rfl
  .have hi:i<o\/o+(r.length+1)<=i:=hi;rw[d i (by omega),getElem?_setIfInBounds,if_neg (by omega)]
theorem kR(b:Nat):∀(vs:List Value) (o:Nat) (w:World),(w.setCells b o vs).heap.size=w.heap.size
 | [],_,_=>rfl
 | v::r,o,w=>by
  refine(kR b r (o+1) _).trans ?_;unfold World.setCell;exact size_modify
theorem kQ(b:Nat):∀(vs:List Value) (o:Nat) (w:World),(w.setCells b o vs).tape=w.tape
 | [],_,_=>rfl
 | _::r,o,_=>kQ b r (o+1) _
theorem cell_of_row{w:World}{x:Nat×Nat×Nat}{t:TypeId}{vs:List Value}(h:zw prog w x t vs){j:Nat}{v:Value}(a:vs[j]?=some v):w.cell? ⟨x.1,x.2.1+j,none⟩=some v:=by
 obtain⟨arr,fz,h1,h2,h3,c,b⟩:=h;unfold World.cell?;rw[h1];exact(b j (List.getElem?_eq_some_iff.1 a).1).trans a
theorem zjO:qX prog 86=14:=by kernel_rfl
theorem under25:Tryz.prog.underlying 25=some (.slice 86):=by kernel_rfl
theorem znO{es:List Ent}(hl:∀e∈es,e.2.1.oneCell'=true/\e.2.2.oneCell'=true):∀v∈cellsOf es,v.oneCell'=true:=by
 intro v hv;obtain⟨e,he,hv⟩:=List.mem_flatMap.1 hv;obtain⟨h1,h2⟩:=hl e he;have hv:v∈([_,_,_,_,_,_,_,_,_,_,_,_,_,_]:List Value):=hv;simp only[mem_cons,mem_nil_iff,or_false]at hv;rcases hv with rfl|rfl|rfl|rfl|rfl|rfl|rfl|rfl|rfl|rfl|rfl|rfl|rfl|rfl<;>first|rfl|exact h1|exact h2
structure Y1(v:Value)(w w2:World):Prop where
 Z4:Vu v w w2
 size:w.heap.size<=w2.heap.size
 tape:w2.tape=w.tape
 os:w2.os=w.os
 output:w2.output=w.output
theorem zo6{w:World}{R:zy}{v1 v2:Value}(h1:AtS w v1 R.up)(h2:AtS w v2 R.down):∀v∈ZB (R,v1,v2),v.oneCell'=true:=by
 obtain⟨d,c1,b⟩:=h1.slice;obtain⟨c,f,a⟩:=h2.slice;have:=znO (es:=[(R,v1,v2)]) (fun e he=>by rw[List.mem_singleton]at he;subst he;exact⟨by show v1.oneCell'=true;rw[b];rfl,by show v2.oneCell'=true;rw[a];rfl⟩);intro v hv;exact this v (by unfold cellsOf;rw[List.flatMap_singleton];exact hv)
theorem znc(w:World){ops:Array Oper}{rest:List Oper}{o:Oper}{a:Act}{Q:Exit->Act->World->Prop}(s x:Operand)(b:Nat){d:List Ent}{R:zy}{v1 v2:Value}
  (hg:o.guard=none) (hop:o.op=Op.call { callee:=Callee.builtin Builtin.append,args:=#[s,x],argTypes:=#[25,25] }) (hrows:yC w 86 (a.eval s) d) (few:d.length<=7)
  (hx:a.eval x = .slice (some ⟨b,0,none⟩) 1 1) (hbox:zw prog w (b,0,0) 86 (ZB (R,v1,v2))) (hone:∀v∈ZB (R,v1,v2),v.oneCell'=true)
  (hK:∀q c w',yC w' 86 (.slice (some q) (d.length+1) c) (d++[(R,v1,v2)])->(w.heap.size<=q.block\/∃p n m,a.eval s = .slice (some p) n m/\p.block=q.block)->Y1 (a.eval s) w w'->wpList prog ops Q rest (a.put o.dst (.slice (some q) (d.length+1) c)) w') :
  wpList prog ops Q (o::rest) a w:=by
 obtain⟨i,hi⟩:∃i,Tryz.prog.info? 86=some i:=Option.isSome_iff_exists.1 (by kernel_rfl);have A:(Tryz.prog.info? 86).map (·.size)=some 14:=by kernel_rfl
 have k2:(Tryz.prog.info? 86).map (fun i=>Nat.ble i.bytes 1000)=some true:=by kernel_rfl
 have k3:((Tryz.prog.info? 86).bind (·.zero)).map (fun z=>z.cells.size)=some 14:=by kernel_rfl
 rw[hi]at A k2 k3;have A:i.size=14:=Option.some.inj A;have k2:i.bytes<=1000:=Nat.ble_eq.mp (Option.some.inj k2);obtain⟨z,H,B⟩:=Option.map_eq_some_iff.1 k3;have H:i.zero=some z:=H;have D:(d.length+1)*i.bytes<=140737488355328:=Nat.le_trans (Nat.mul_le_mul (show d.length+1<=8 by omega) k2) (by decide);have G:d.length+1<=maxLen:=by unfold maxLen;omega
 have hn:(ZB (R,v1,v2)).length=1*14:=rfl
 have hc:∀(j:Nat) (u:Value),(ZB (R,v1,v2))[j]?=some u->w.cell? ((⟨b,0,none⟩:Addr).add j)=some u:=by
  intro j u f;have:=cell_of_row hbox f;rw[Addr.add_lit];exact this
 have grown:∀I w',w'.ownsRow w.heap.size 86 14 I (d.length+1) (cellsOf d++ZB (R,v1,v2))->w.grownBy w' none->wpList prog ops Q rest (a.put o.dst I) w':=by
  intro I w' T k;obtain⟨_,⟨_,h0⟩|⟨g,cap,cur,rfl,h1,h2,h3,_,X,U⟩⟩:=T
  .omega
  .refine hK _ _ w' ⟨fun h=>absurd (congrArg List.length h) (by simp),fun _=>⟨(g,0,cap-(d.length+1)),?_,cur,(0,0),h2,?_,fun i _ h=>by omega,Nat.dvd_zero _,fun j f=>?_⟩⟩ (.inl h1) ⟨fun c hc _=>k.block c hc (by simp),k.size,k.tape,k.os,k.output⟩
   .rw[length_append,show d.length+[(R,v1,v2)].length+(cap-(d.length+1))=cap by simp;omega];rfl
   .rw[yM,zjO,length_append,X];show 0+14*(d.length+1)+(cap-(d.length+1))*14<=cap*14;omega
   .rw[V5,<- U]at f ⊢;rw[Nat.zero_add];rw[getElem?_take,if_pos (by rw[length_take]at f;omega),getElem?_toList]
 by_cases he:d=[]
 .subst he;have hs:a.eval s = .slice none 0 0:=hrows.1 rfl;exact wpList_append_grows w hg s x 25 hop 86 i z 14 i.bytes under25 hi H A rfl B (by decide) none 0 0 [] hs (fun _=>⟨rfl,rfl⟩) rfl (fun b h=>by cases h) _ 1 1 _ hx hn hc hone (by decide) G D grown
 .obtain⟨y,hs,l⟩:=hrows.2 he;have t:=l;obtain⟨arr,fz,J,O,M,N,r5⟩:=t;rw[yM,zjO]at O;have hold:∀(j:Nat) (u:Value),(cellsOf d)[j]?=some u->w.cell? ⟨y.1,y.2.1+j,none⟩=some u:=fun j u f=>cell_of_row l f;refine wpList_append_arg w hg s x 25 hop 86 i z 14 i.bytes under25 hi H A rfl B (by decide) y.1 y.2.1 d.length (d.length+y.2.2) (cellsOf d) hs (by rw[yM,Nat.mul_comm]) hold _ 1 1 _ hx hn hc hone (fun P j f=>?_) G D (fun P=>?_) fun _=>grown
  .have f:j<14:=f;have C:y.2.1+d.length*14+j<arr.size:=by omega
   refine⟨?_,?_⟩
   .unfold World.cell?;rw[J];show(arr[y.2.1+d.length*14+j]?).isSome=true;rw[Array.getElem?_eq_getElem C];rfl
   .unfold World.frozen?;rw[J];have:=M _ C;show(decide (fz.1<=y.2.1+d.length*14+j)&&decide (y.2.1+d.length*14+j<fz.2))=false;rw[Bool.and_eq_false_iff,decide_eq_false_iff_not,decide_eq_false_iff_not];omega
  .have K:y.2.1+d.length*14+(ZB (R,v1,v2)).length<=arr.size:=by rw[hn];omega
   obtain⟨r,g1,g2,Z,Y⟩:=ky y.1 (ZB (R,v1,v2)) (y.2.1+d.length*14) w arr 86 fz J K;refine hK _ _ _ ⟨fun h=>absurd (congrArg List.length h) (by simp),fun _=>⟨(y.1,y.2.1,y.2.2-1),?_,r,fz,g1,?_,fun i hi=>M i (by omega),N,fun j f=>?_⟩⟩ (.inr ⟨_,_,_,hs,rfl⟩) ⟨fun c hc L=>?_,?_,kQ _ _ _ _,?_,?_⟩
   .rw[length_append,show d.length+[(R,v1,v2)].length+(y.2.2-1)=d.length+y.2.2 by simp;omega];rfl
   .rw[yM,zjO,length_append,g2];show y.2.1+14*(d.length+1)+(y.2.2-1)*14<=arr.size;omega
   .rw[V5];rw[yM,length_append]at f;have f:j<14*(d.length+1):=f;show r[y.2.1+j]?=_;rcases Nat.lt_or_ge j (14*d.length) with h|h
    .rw[List.getElem?_append_left (by rw[yM];exact h),Y _ (by omega)];exact r5 j (by rw[yM];exact h)
    .rw[List.getElem?_append_right (by rw[yM];exact h),yM];have:=Z (j-14*d.length) (by rw[hn];omega);rw[show y.2.1+d.length*14+(j-14*d.length)=y.2.1+j by omega]at this;exact this
   .refine heap_setCells_other w _ _ _ hc fun e=>L _ _ _ hs e.symm
   .rw[kR];exact Nat.le_refl _
   .exact os_setCells _ _ _ _
   .exact output_setCells _ _ _ _
end TR
end
noncomputable section
open Go.Proofs
theorem Qu[Unk]{N:Nat}{val:Nat->Value}{g:Nat}(a:g<100):KP.BN N val g=some (Unk.place g):=by
 show zJ (KP.JU N val) g=_;unfold zJ;rw[if_pos a]
def Z6(w:World):Prop:=zw prog w (1,0,0) 401 (KP.rounds.map fun n=>.int .u64 (Int.ofNat n))/\zw prog w (2,0,0) 403 (KP.turns.map fun n=>.int .i64 (Int.ofNat n))
theorem Jo[Unk](a:Inj)(k:IntKind)(l:List Nat):WFs a (l.map fun n=>.int k (Int.ofNat n))/\zf a (l.map fun n=>.int k (Int.ofNat n))=l.map fun n=>.int k (Int.ofNat n):=by
 constructor
 .rw[zV];intro v hv;obtain⟨n,_,rfl⟩:=List.mem_map.1 hv;trivial
 .rw[zx,List.map_map];rfl
theorem znm[Unk]{w:World}(h:Z6 w){a:Inj}:∀p∈KP.tabs,zH prog a p.2 (p.1,0,0) w:=by
 intro p hp;simp only[KP.tabs,mem_cons,mem_nil_iff,or_false]at hp;rcases hp with rfl|rfl
 .exact zw.blk (by rfl) (Jo a .u64 KP.rounds).1 (by rw[(Jo a .u64 KP.rounds).2];exact h.1)
 .exact zw.blk (by rfl) (Jo a .i64 KP.turns).1 (by rw[(Jo a .i64 KP.turns).2];exact h.2)
theorem Vy:∀p∈KP.tabs,p.1<60:=by
 intro p hp;simp only[KP.tabs,mem_cons,mem_nil_iff,or_false]at hp;rcases hp with rfl|rfl
 .exact(by decide:1<60)
 .exact(by decide:2<60)
theorem zbt[Unk]{w:World}(h:Z6 w):zZ prog KP.tabs w:=
 ⟨fun id=>some (Unk.place id),fun _ _=>rfl,fun p hp=>by rw[Unk.glob p.1 (Vy p hp)];exact znm h p hp⟩
theorem zfE[Unk]{w:World}(h:zZ prog KP.tabs w):Z6 w:=by
 obtain⟨a,h1,h2⟩:=h;have g1:=h2 (1,_) mem_cons_self;have b:=h2 (2,_) (mem_cons_of_mem _ mem_cons_self);rw[Unk.glob 1 (by decide)]at g1;rw[Unk.glob 2 (by decide)]at b;refine⟨?_,?_⟩
 .have:=zw.of (by rfl) g1;rwa[(Jo a .u64 KP.rounds).2]at this
 .have:=zw.of (by rfl) b;rwa[(Jo a .i64 KP.turns).2]at this
theorem Z6.Z4{w w2:World}(h:Z6 w)(k:TR.qy w w2):Z6 w2:=by
 obtain⟨⟨arr,fz,d,f⟩,⟨a,b,c,e⟩⟩:=h;exact⟨⟨arr,fz,by rw[k.old _ _ _ _ d (by decide) (by decide) (by decide) (by decide)];exact d,f⟩,⟨a,b,by rw[k.old _ _ _ _ c (by decide) (by decide) (by decide) (by decide)];exact c,e⟩⟩
namespace AP
open TR
open KT (zF)
instance:Inhabited zy:=⟨⟨0,0,.empty,0,.empty,.empty,0,false,0,none,none,.empty,.empty,false⟩⟩
def VH(v:Value):Value:=if JB v=true then v else .int .u8 0
theorem zeF(v:Value):JB (VH v)=true:=by
 unfold VH;by_cases h:JB v=true
 .rw[if_pos h];exact h
 .rw[if_neg h];rfl
theorem Qj{v:Value}(h:JB v=true):VH v=v:=if_pos h
def opq(es:List Ent)(g:Nat):Value:=VH (if g % 2=0 then((es[(g-72) / 2]?).getD default).2.1 else((es[(g-72) / 2]?).getD default).2.2)
@[reducible] def unkA (x1 x2:Nat×Nat×Nat) (s1 s2:ByteArray) (es:List Ent):Unk where
 val i:=opq es (i-1000)
 plain i:=zeF _
 place g:=if g=60 then x1 else if g=61 then x2 else if g=70 then yD s1 else if g=71 then yD s2 else if 72<=g/\g<100 then(1000+g,0,0) else(g,0,0)
 glob g hg:=by rw[if_neg (by omega),if_neg (by omega),if_neg (by omega),if_neg (by omega),if_neg (by omega)]
def qT(es:List Ent)(j:Nat):zy:=((es[j]?).getD default).1
def val(R:zy)(s1 s2:ByteArray)(es:List Ent)(id:Nat):Value:=
 if id<2012 then R.at (id-2000)
 else if 2100<=id/\id<2300 then(qT es ((id-2100) / 20)).at ((id-2100) % 20)
 else if 2500<=id/\id<3300 then .int .u8 (qN ((es.map (·.1)).take ((id-2500) / 32)) ((id-2500) % 32):Nat)
 else if 3300<=id then .int .u8 (qN (es.map (·.1)++[R]) (id-3300):Nat)
 else if 2040<=id/\id<2050 then .string (str (qT es (id-2040)).qi.bytes)
 else match id with
 | 2050=>.string (str R.qi.bytes)|2060=>.int .i64 (R.err:Nat)|2061=>.int .i64 (R.Zz:Nat)|2070=>.int .i64 (s1.size:Nat)|_=>.int .i64 (s2.size:Nat)
theorem Qi{w:World}{v:Value}{o:Option ByteArray}(h:AtS w v o):JB v=true:=by
 obtain⟨p,c,e⟩:=h.slice;rw[e];rfl
section
variable{R:zy}{s1 s2:ByteArray}{es:List Ent}
section
variable[Unk]
theorem yY{i:Nat}(hi:i<12):WF (KP.BN 6000 (val R s1 s2 es)) (nf i):=KP.qn (by show 100<=2000+i;omega) (by show 2000+i<6000;omega)
theorem yZ{i:Nat}(hi:i<12):zc (KP.BN 6000 (val R s1 s2 es)) (nf i)=R.at i:=
 KP.jO (by show 100<=2000+i;omega) (by show 2000+i<6000;omega) (by show val R s1 s2 es (2000+i)=_;unfold val;rw[if_pos (by omega),Nat.add_sub_cancel_left]) (R.kept i)
theorem kj{j i:Nat}(a:j<9)(hi:i<12):WF (KP.BN 6000 (val R s1 s2 es)) (of j i):=KP.qn (by show 100<=2100+20*j+i;omega) (by show 2100+20*j+i<6000;omega)
theorem Q1{j i:Nat}(a:j<9)(hi:i<12):zc (KP.BN 6000 (val R s1 s2 es)) (of j i)=(qT es j).at i:=
 KP.jO (by show 100<=2100+20*j+i;omega) (by show 2100+20*j+i<6000;omega) (by
  show val R s1 s2 es (2100+20*j+i)=_;unfold val
  rw[if_neg (by omega),if_pos (by omega),show(2100+20*j+i-2100) / 20=j by omega,show(2100+20*j+i-2100) % 20=i by omega]) ((qT es j).kept i)
theorem Q7{id:Nat}(h1:100<=id)(h2:id<6000):WF (KP.BN 6000 (val R s1 s2 es)) (.sym id):=KP.qn h1 h2
theorem Yc(k:Nat)(a:k<=9):WFs (KP.BN 6000 (val R s1 s2 es)) (yO k):=by
 rw[zV];intro v hv;obtain⟨i,hi,rfl⟩:=List.mem_map.1 hv;have hi:i<32*(k+1):=List.mem_range.1 hi;exact Q7 (by show 100<=2500+i;omega) (by show 2500+i<6000;omega)
theorem YL{i:Nat}(hi:i<800):zc (KP.BN 6000 (val R s1 s2 es)) (.sym (2500+i)) = .int .u8 (qN ((es.map (·.1)).take (i / 32)) (i % 32):Nat):=
 KP.jO (by omega) (by omega) (by unfold val;rw[if_neg (by omega),if_neg (by omega),if_pos (by omega),Nat.add_sub_cancel_left]) rfl
theorem Zn(a:es.length<=9):zf (KP.BN 6000 (val R s1 s2 es)) (yO es.length)=VS (es.map (·.1)):=by
 unfold yO VS;rw[zx,List.map_map,length_map];refine List.map_congr_left fun i hi=>?_;have hi:i<32*(es.length+1):=List.mem_range.1 hi;exact YL (by omega)
theorem ztB(k:Nat)(a:k<=9):WFs (KP.BN 6000 (val R s1 s2 es)) (Zc k):=by
 rw[zV];intro v hv;obtain⟨i,hi,rfl⟩:=List.mem_map.1 hv;have hi:=List.mem_range.1 hi;exact Q7 (by show 100<=2500+32*k+i;omega) (by show 2500+32*k+i<6000;omega)
theorem ztD(a:es.length<=9):zf (KP.BN 6000 (val R s1 s2 es)) (Zc es.length)=zF 32 (qN (es.map (·.1))):=by
 rw[<- zkJ,length_map];unfold Zc;rw[zx,List.map_map];refine List.map_congr_left fun i hi=>?_;have hi:=List.mem_range.1 hi;show zc _ (.sym (2500+32*es.length+i))=_;rw[show 2500+32*es.length+i=2500+(32*es.length+i) by omega,YL (by omega)]
theorem zkY:WFs (KP.BN 6000 (val R s1 s2 es)) zak:=by
 rw[zV];intro v hv;obtain⟨i,hi,rfl⟩:=List.mem_map.1 hv;have hi:=List.mem_range.1 hi;exact Q7 (by show 100<=3300+i;omega) (by show 3300+i<6000;omega)
theorem Wm:zf (KP.BN 6000 (val R s1 s2 es)) zak=zF 32 (qN (es.map (·.1)++[R])):=by
 unfold zak zF;rw[zx,List.map_map];refine List.map_congr_left fun i hi=>?_;have hi:=List.mem_range.1 hi;refine KP.jO (by show 100<=3300+i;omega) (by show 3300+i<6000;omega) ?_ rfl;show val R s1 s2 es (3300+i)=_;unfold val;rw[if_neg (by omega),if_neg (by omega),if_neg (by omega),if_pos (by omega),Nat.add_sub_cancel_left]
def Ve(k:Nat)(R:zy):Nat:=if R.number≠(k+1:Nat) then 0 else if R.version<0 then 1 else if 30000<R.day then 2 else 3
theorem ZH{tabs:List (Nat×zo)}(hR:R.Ok)(k:Nat):∀f∈ZI k (Ve k R),zq prog tabs (KP.BN 6000 (val R s1 s2 es)) f:=by
 have o:=yY (R:=R) (s1:=s1) (s2:=s2) (es:=es) (i:=0) (by decide);have e:=yY (R:=R) (s1:=s1) (s2:=s2) (es:=es) (i:=1) (by decide);have d:=yY (R:=R) (s1:=s1) (s2:=s2) (es:=es) (i:=6) (by decide);have p:=yZ (R:=R) (s1:=s1) (s2:=s2) (es:=es) (i:=0) (by decide);have n:=yZ (R:=R) (s1:=s1) (s2:=s2) (es:=es) (i:=1) (by decide);have m:=yZ (R:=R) (s1:=s1) (s2:=s2) (es:=es) (i:=6) (by decide);have hv:=hR.version;have hd:=hR.day;have g1:∀b:Bool,b=(R.number==((k+1:Nat):Int))->zq prog tabs (KP.BN 6000 (val R s1 s2 es)) (.eq 1 (nf 0) (zX (Nat.succ k)) b):=fun b hb=>JJ o trivial p (show zc _ (zX (Nat.succ k)) = .int .i64 ((k+1:Nat):Int) from rfl) hb;have c:∀b:Bool,b=decide (R.version<((0:Nat):Int))->zq prog tabs (KP.BN 6000 (val R s1 s2 es)) (.bin .lss (nf 1) (zX 0) (qf b)):=fun b hb=>ZQ e n hb;have l:zq prog tabs (KP.BN 6000 (val R s1 s2 es)) (.bin .gtr (nf 1) (zX 2147483647) (.bool false)):=kZ (b:=false) e n (by symm;rw[decide_eq_false_iff_not];omega);have j:zq prog tabs (KP.BN 6000 (val R s1 s2 es)) (.bin .lss (nf 6) (zX 0) (.bool false)):=ZQ (b:=false) d m (by symm;rw[decide_eq_false_iff_not];omega);have g:∀b:Bool,b=decide (((30000:Nat):Int)<R.day)->zq prog tabs (KP.BN 6000 (val R s1 s2 es)) (.bin .gtr (nf 6) (zX 30000) (qf b)):=fun b hb=>kZ d m hb;intro f a;unfold Ve at a;split at a
 .rename_i h;have a:f∈[Fact.eq 1 (nf 0) (zX (Nat.succ k)) false]:=a;rw[List.mem_singleton]at a;subst a;exact g1 _ (by symm;simpa using h)
 .rename_i h;have h:R.number=(k+1:Nat):=Classical.not_not.1 h;split at a
  .rename_i h2;have a:f∈[Fact.eq 1 (nf 0) (zX (Nat.succ k)) true,.bin .lss (nf 1) (zX 0) (qf true)]:=a;simp only[mem_cons,mem_nil_iff,or_false]at a;rcases a with rfl|rfl
   .exact g1 _ (by symm;simpa using h)
   .exact c _ (by symm;rw[decide_eq_true_eq];omega)
  .rename_i h2;split at a
   .rename_i h3;have a:f∈[Fact.eq 1 (nf 0) (zX (Nat.succ k)) true,.bin .lss (nf 1) (zX 0) (qf false),.bin .gtr (nf 1) (zX 2147483647) (.bool false),.bin .lss (nf 6) (zX 0) (.bool false),.bin .gtr (nf 6) (zX 30000) (qf true)]:=a;simp only[mem_cons,mem_nil_iff,or_false]at a;rcases a with rfl|rfl|rfl|rfl|rfl
    .exact g1 _ (by symm;simpa using h)
    .exact c _ (by symm;rw[decide_eq_false_iff_not];omega)
    .exact l
    .exact j
    .exact g _ (by symm;rw[decide_eq_true_eq];omega)
   .rename_i h3;have a:f∈[Fact.eq 1 (nf 0) (zX (Nat.succ k)) true,.bin .lss (nf 1) (zX 0) (qf false),.bin .gtr (nf 1) (zX 2147483647) (.bool false),.bin .lss (nf 6) (zX 0) (.bool false),.bin .gtr (nf 6) (zX 30000) (qf false)]:=a;simp only[mem_cons,mem_nil_iff,or_false]at a;rcases a with rfl|rfl|rfl|rfl|rfl
    .exact g1 _ (by symm;simpa using h)
    .exact c _ (by symm;rw[decide_eq_false_iff_not];omega)
    .exact l
    .exact j
    .exact g _ (by symm;rw[decide_eq_false_iff_not];omega)
theorem Kj{tabs:List (Nat×zo)}{j:Nat}(a:j<9)(hb:¬TR.bars (qT es j) R):∃alt∈ways j,∀f∈alt,zq prog tabs (KP.BN 6000 (val R s1 s2 es)) f:=by
 have t1:∀b:Bool,b=decide ((qT es j).tenant=R.tenant)->zq prog tabs (KP.BN 6000 (val R s1 s2 es)) (.eq 2 (of j 2) (nf 2) b):=fun b hb=>XN (kj a (by decide)) (yY (by decide)) (Q1 a (by decide)) (yZ (by decide)) hb
 have t2:¬R.version<(qT es j).version->zq prog tabs (KP.BN 6000 (val R s1 s2 es)) (.bin .gtr (of j 1) (nf 1) (.bool false)):=fun h=>by
  refine jl (k:=.i64) (j:=.i64) (m:=(qT es j).version) (n:=R.version) (kj a (by decide)) (yY (by decide)) trivial (Q1 a (by decide)) (yZ (by decide)) (v:=jA (ilt R.version (qT es j).version)) rfl ?_;rw[yu,kS,decide_eq_false h]
 have t3:∀b:Bool,b=((qT es j).version==R.version)->zq prog tabs (KP.BN 6000 (val R s1 s2 es)) (.eq 1 (of j 1) (nf 1) b):=fun b hb=>JJ (kj a (by decide)) (yY (by decide)) (Q1 a (by decide)) (yZ (by decide)) hb;have t4:∀b:Bool,b=((qT es j).day==R.day)->zq prog tabs (KP.BN 6000 (val R s1 s2 es)) (.eq 1 (of j 6) (nf 6) b):=fun b hb=>JJ (kj a (by decide)) (yY (by decide)) (Q1 a (by decide)) (yZ (by decide)) hb;by_cases h1:(qT es j).tenant=R.tenant
 .have h2:¬R.version<(qT es j).version:=fun h=>hb ⟨h1,.inl h⟩;by_cases h3:(qT es j).version=R.version
  .have d:(qT es j).day=R.day:=Classical.byContradiction fun h=>hb ⟨h1,.inr ⟨h3,h⟩⟩;refine⟨_,mem_cons_of_mem _ (mem_cons_of_mem _ mem_cons_self),fun f c=>?_⟩;simp only[mem_cons,mem_nil_iff,or_false]at c;rcases c with rfl|rfl|rfl|rfl
   .exact t1 _ (by symm;simpa using h1)
   .exact t2 h2
   .exact t3 _ (by symm;simpa using h3)
   .exact t4 _ (by symm;simpa using d)
  .refine⟨_,mem_cons_of_mem _ mem_cons_self,fun f c=>?_⟩;simp only[mem_cons,mem_nil_iff,or_false]at c;rcases c with rfl|rfl|rfl
   .exact t1 _ (by symm;simpa using h1)
   .exact t2 h2
   .exact t3 _ (by symm;simpa using h3)
 .refine⟨_,mem_cons_self,fun f c=>?_⟩;rw[List.mem_singleton]at c;subst c;exact t1 _ (by symm;simpa using h1)
theorem Uw{tabs:List (Nat×zo)}{j:Nat}(a:j<9)(hb:TR.bars (qT es j) R):∃i,i<2/\∃f,kY i (AP.bars j)=some f/\∀g∈f,zq prog tabs (KP.BN 6000 (val R s1 s2 es)) g:=by
 obtain⟨h1,h2⟩:=hb;have t1:zq prog tabs (KP.BN 6000 (val R s1 s2 es)) (.eq 2 (of j 2) (nf 2) true):=XN (kj a (by decide)) (yY (by decide)) (Q1 a (by decide)) (yZ (by decide)) (by symm;simpa using h1)
 have t2:∀b:Bool,b=decide (R.version<(qT es j).version)->zq prog tabs (KP.BN 6000 (val R s1 s2 es)) (.bin .gtr (of j 1) (nf 1) (.bool b)):=fun b h=>by
  refine jl (k:=.i64) (j:=.i64) (m:=(qT es j).version) (n:=R.version) (kj a (by decide)) (yY (by decide)) trivial (Q1 a (by decide)) (yZ (by decide)) (v:=jA (ilt R.version (qT es j).version)) rfl ?_;rw[yu,kS,h]
 by_cases h3:R.version<(qT es j).version
 .refine⟨0,by decide,_,rfl,fun f c=>?_⟩;simp only[mem_cons,mem_nil_iff,or_false]at c;rcases c with rfl|rfl
  .exact t1
  .exact t2 _ (by symm;simpa using h3)
 .rcases h2 with h2|⟨h2,d⟩
  .exact absurd h2 h3
  .refine⟨1,by decide,_,rfl,fun f c=>?_⟩;simp only[mem_cons,mem_nil_iff,or_false]at c;rcases c with rfl|rfl|rfl|rfl
   .exact t1
   .exact t2 _ (by symm;simpa using h3)
   .exact JJ (kj a (by decide)) (yY (by decide)) (Q1 a (by decide)) (yZ (by decide)) (by symm;simpa using h2)
   .exact JJ (kj a (by decide)) (yY (by decide)) (Q1 a (by decide)) (yZ (by decide)) (by symm;simpa using d)
end
end
end AP
end
section
open Go.Proofs
namespace AP
open TR
open KT (zF J7)
theorem Ji[Unk]{N:Nat}{val:Nat->Value}{w:World}{v:Value}{o:Option ByteArray}{x:Nat×Nat×Nat}{s:ByteArray}(h:Slot w v o x s){b q:Nat}(hb:b<100)(hq:q<100)(e:Unk.place b=x)(d:Unk.place q=yD s) :
  WF (KP.BN N val) (J6 b q (cnt o))/\zc (KP.BN N val) (J6 b q (cnt o))=v:=by
 cases o with
 | none=>exact⟨trivial,(h.none_ rfl).symm⟩
 | some t=>
  obtain⟨rfl,arr,fz,hx⟩:=h.some_ t rfl;have a:KP.BN N val b=some x:=by rw[Qu hb,e]
  have c:zc (KP.BN N val) (.sym q) = .string s:=by
   show qe ((KP.BN N val q).getD (0,0,0))=_;rw[Qu hq,d,getD_some,jV]
  refine⟨⟨by rw[a];rfl,by show(KP.BN N val q).isSome=true;rw[Qu hq];rfl,s,c,by simp only[Inj.ext,a];exact hx.cap⟩,?_⟩;show zc (KP.BN N val) (.osl b (.sym q))=v;rw[zc,c,hx.is];simp[sOf,Inj.addr,Inj.blk,Inj.sh,Inj.ext,a]
structure Two(w:World)(R:zy)(v1 v2:Value)(x1 x2:Nat×Nat×Nat)(s1 s2:ByteArray):Prop where
 a:Slot w v1 R.up x1 s1
 b:Slot w v2 R.down x2 s2
section
variable{R:zy}{s1 s2:ByteArray}{es:List Ent}{v1 v2:Value}{x1 x2:Nat×Nat×Nat}{w0:World}(hR:R.Ok)(h2:Two w0 R v1 v2 x1 x2 s1 s2)
include hR h2
theorem QI{T:List (Nat×zo)}{w:World}(g:@zZ (unkA x1 x2 s1 s2 es) prog (zP (qV (cnt R.up) (cnt R.down)) T) w):AtS w v1 R.up/\AtS w v2 R.down/\@zZ (unkA x1 x2 s1 s2 es) prog T w:=by
 letI:=unkA x1 x2 s1 s2 es;obtain⟨d,e,h⟩:=g;have c:∀p∈qV (cnt R.up) (cnt R.down)++T,zH prog d p.2 (Unk.place p.1) w:=by rw[<- zT];exact h
 have f:∀p∈zd2 60 70 (cnt R.up)++zd2 61 71 (cnt R.down),zH prog d p.2 (Unk.place p.1) w:=fun p hp=>c p (List.mem_append_left _ (by unfold qV;rw[zT];exact hp));exact⟨zbu h2.a e (b:=60) (q:=70) (by decide) rfl rfl fun p hp=>f p (List.mem_append_left _ hp),zbu h2.b e (b:=61) (q:=71) (by decide) rfl rfl fun p hp=>f p (List.mem_append_right _ hp),⟨d,e,fun p hp=>c p (List.mem_append_right _ hp)⟩⟩
theorem Vv{T:List (Nat×zo)}(e:@zZ (unkA x1 x2 s1 s2 es) prog T w0):@zZ (unkA x1 x2 s1 s2 es) prog (zP (qV (cnt R.up) (cnt R.down)) T) w0:=by
 letI:=unkA x1 x2 s1 s2 es;obtain⟨d,c,f⟩:=e;refine⟨d,c,fun p hp=>?_⟩;rcases zR hp with hp|hp
 .unfold qV at hp;rcases zR hp with hp|hp
  .exact QK h2.a c (b:=60) (q:=70) (by decide) rfl rfl p hp
  .exact QK h2.b c (b:=61) (q:=71) (by decide) rfl rfl p hp
 .exact f p hp
theorem ZC:letI:=unkA x1 x2 s1 s2 es
  WF (KP.BN 6000 (val R s1 s2 es)) (yX (cnt R.up) (cnt R.down))/\zc (KP.BN 6000 (val R s1 s2 es)) (yX (cnt R.up) (cnt R.down)) = .agg (R.l1++v1::v2::R.l2).toArray:=by
 letI:=unkA x1 x2 s1 s2 es;obtain⟨q1,q2⟩:=Ji (N:=6000) (val:=val R s1 s2 es) h2.a (b:=60) (q:=70) (by decide) (by decide) rfl rfl;obtain⟨d,c⟩:=Ji (N:=6000) (val:=val R s1 s2 es) h2.b (b:=61) (q:=71) (by decide) (by decide) rfl rfl;have w:∀i,i<12->WF (KP.BN 6000 (val R s1 s2 es)) (nf i):=fun i hi=>yY hi;have e:∀i,i<12->zc (KP.BN 6000 (val R s1 s2 es)) (nf i)=R.at i:=fun i hi=>yZ hi;refine⟨⟨w 0 (by decide),w 1 (by decide),w 2 (by decide),w 3 (by decide),w 4 (by decide),w 5 (by decide),w 6 (by decide),w 7 (by decide),w 8 (by decide),q1,d,w 9 (by decide),w 10 (by decide),w 11 (by decide),trivial⟩,?_⟩;unfold yX;rw[Zg];simp only[zf];rw[q2,c,e 0 (by decide),e 1 (by decide),e 2 (by decide),e 3 (by decide),e 4 (by decide),e 5 (by decide),e 6 (by decide),e 7 (by decide),e 8 (by decide),e 9 (by decide),e 10 (by decide),e 11 (by decide)];rfl
theorem V3{T:List (Nat×zo)}{r:zb}:letI:=unkA x1 x2 s1 s2 es
  WF (KP.BN 6000 (val R s1 s2 es)) r->zc (KP.BN 6000 (val R s1 s2 es)) r = .int .i64 (R.err:Nat) ->
  zq prog (zP (qV (cnt R.up) (cnt R.down)) T) (KP.BN 6000 (val R s1 s2 es)) (V4 (cnt R.up) (cnt R.down) r):=by
 letI:=unkA x1 x2 s1 s2 es;intro hw b;obtain⟨q1,q2⟩:=ZC (es:=es) hR h2;refine⟨⟨q1,trivial⟩,hw,fun w a=>?_⟩;obtain⟨f,d,_⟩:=QI hR h2 a
 have c:(zf (KP.BN 6000 (val R s1 s2 es)) [yX (cnt R.up) (cnt R.down)]).toArray = #[.agg (R.l1++v1::v2::R.l2).toArray]:=by
  rw[zf,q2];rfl
 rw[c,b];exact(CK.zla hR f d).mono fun e w2 hx=>⟨hx.2,hx.1⟩
theorem zrL{T:List (Nat×zo)}(c:EN.Good R):letI:=unkA x1 x2 s1 s2 es
  zq prog (zP (qV (cnt R.up) (cnt R.down)) T) (KP.BN 6000 (val R s1 s2 es)) (zxn (cnt R.up) (cnt R.down)):=by
 letI:=unkA x1 x2 s1 s2 es;obtain⟨q1,q2⟩:=ZC (es:=es) hR h2;refine zad (s:=str R.qi.bytes) ⟨q1,trivial⟩ (by decide) (Q7 (by decide) (by decide)) (KP.jO (by decide) (by decide) (show val R s1 s2 es 2050=_ from rfl) rfl) (fun w b=>?_);obtain⟨f,e,_⟩:=QI hR h2 b;obtain⟨h,a⟩:=CK.jI hR.up f;obtain⟨g,k2⟩:=CK.jI hR.down e
 have d:(zf (KP.BN 6000 (val R s1 s2 es)) [yX (cnt R.up) (cnt R.down)]).toArray = #[.agg (R.l1++v1::v2::R.l2).toArray]:=by
  rw[zf,q2];rfl
 rw[d];exact EN.Un hR c a k2
theorem YH{T:List (Nat×zo)}:letI:=unkA x1 x2 s1 s2 es
  ∀f∈zP (jY (cnt R.up) 70 2070) (jY (cnt R.down) 71 2071),zq prog T (KP.BN 6000 (val R s1 s2 es)) f:=by
 letI:=unkA x1 x2 s1 s2 es
 have key:∀(o:Option ByteArray) (v:Value) (x:Nat×Nat×Nat) (s:ByteArray) (q n:Nat),yB o->Slot w0 v o x s->q<100->100<=n->n<6000->Unk.place q=yD s->val R s1 s2 es n = .int .i64 (s.size:Nat)->∀f∈jY (cnt o) q n,zq prog T (KP.BN 6000 (val R s1 s2 es)) f:=by
  intro o v x s q n hs i hq g e m r f c
  cases o with
  | none=>cases c
  | some t=>
   obtain⟨rfl,_⟩:=i.some_ t rfl;have d:=hs s rfl;have hw:WF (KP.BN 6000 (val R s1 s2 es)) (.sym q):=by show(KP.BN 6000 (val R s1 s2 es) q).isSome=true;rw[Qu hq];rfl
   have l:zc (KP.BN 6000 (val R s1 s2 es)) (.sym q) = .string s:=by
    show qe ((KP.BN 6000 (val R s1 s2 es) q).getD (0,0,0))=_;rw[Qu hq,m,getD_some,jV]
   have k:zc (KP.BN 6000 (val R s1 s2 es)) (.sym n) = .int .i64 (s.size:Nat):=KP.jO g e r rfl;have c:f∈[Fact.eq 2 (.sym q) (.str []) false,.len (.sym q) (.sym n),.bin .gtr (.sym n) (.int .i64 (.ofNat 100000000)) (.bool false)]:=c;simp only[mem_cons,mem_nil_iff,or_false]at c;have j:0<s.size:=d.1
   have p:s.size<=64:=by
    rcases d.2 with h|h
    .omega
    .rw[h];decide
   rcases c with rfl|rfl|rfl
   .refine XN hw (by intro b hb;cases hb) l rfl ?_;symm;rw[decide_eq_false_iff_not];intro h;rw[h]at j;cases j
   .exact YP hw (Q7 g e) l k
   .exact zdk (Q7 g e) k (by omega)
 intro f c;rcases zR c with c|c
 .exact key R.up v1 x1 s1 70 2070 hR.up h2.a (by decide) (by decide) (by decide) rfl rfl f c
 .exact key R.down v2 x2 s2 71 2071 hR.down h2.b (by decide) (by decide) (by decide) rfl rfl f c
end
end AP
end
section
open Go.Proofs
namespace AP
open TR
open KT (zF J7)
theorem QX(Rs:List zy)(i:Nat):qN Rs i<256:=by
 have hd:∀n b,KS.dg n b i<256:=fun n b=>by unfold KS.dg;exact mod_lt _ (by decide)
 rcases eq_nil_or_concat Rs with rfl|⟨l,a,rfl⟩
 .exact hd _ _
 .rw[concat_eq_append,zdr];exact hd _ _
theorem zmS(n m:Option ByteArray):zD (zP (qV (cnt n) (cnt m)) KP.tabs)=true:=by
 cases n<;>cases m
 .exact(by kernel_rfl:zD (zP (qV 0 0) KP.tabs)=true)
 .exact(by kernel_rfl:zD (zP (qV 0 1) KP.tabs)=true)
 .exact(by kernel_rfl:zD (zP (qV 1 0) KP.tabs)=true)
 .exact(by kernel_rfl:zD (zP (qV 1 1) KP.tabs)=true)
theorem Kz(R:zy)(i:Nat):zj9 R i<256:=zpx _ _
theorem Ju[Unk]{b:Inj}{x:Nat×Nat×Nat}{w:World}{v:zb}{s:ByteArray}(h:zH prog b (.text 5 v) x w)(hs:zc b v = .string s):s.size<=x.2.2/\zw prog w (x.1,x.2.1,x.2.2-s.size) 5 (zF s.size (zex s)):=by
 obtain⟨arr,fz,h1,h2⟩:=h;obtain⟨e,c,d⟩:=h2.is;rw[hs]at c;cases c;refine⟨d,arr,fz,h1,?_,h2.thaw,by rw[Vk];exact Nat.one_dvd _,fun j a=>?_⟩
 .show x.2.1+(zF s.size (zex s)).length+(x.2.2-s.size)*qX prog 5<=arr.size;rw[KT.kH,Vk];have:=h2.size;omega
 .rw[KT.kH]at a;rw[KT.V7 _ _ a];have hc:s.data[j]?=some (s.data[j]' a):=Array.getElem?_eq_getElem a;have:=h2.cell j _ (by rw[hs];exact hc);show arr[x.2.1+j]?=_;rw[this];unfold zex;rw[hc]
section
variable{R:zy}{s1 s2:ByteArray}{es:List Ent}{v1 v2:Value}{x1 x2:Nat×Nat×Nat}{w0:World}(hR:R.Ok)(h2:Two w0 R v1 v2 x1 x2 s1 s2)
include hR h2
theorem zb5(T:EN.Good R)(hd:R.day<=30000)(A:es.length<=9):letI:=unkA x1 x2 s1 s2 es
  zq prog (zP (qV (cnt R.up) (cnt R.down)) KP.tabs) (KP.BN 6000 (val R s1 s2 es)) (zfB es.length):=by
 letI:=unkA x1 x2 s1 s2 es;obtain⟨P,O⟩:=Qs hR T hd;unfold zfB;refine KS.Ql (by decide) (zmS _ _) rfl rfl rfl ?_
 have u:∀p∈Yy es.length,p=(6000,zo.cells 51 2 (Tr.ofList [.slice 6001 0 32 32 true,.osl 6002 (.sym 2050)]))\/p=(6001,zo.cells 29 32 (Tr.ofList (Zc es.length)))\/p=(6002,zo.text 5 (.sym 2050)):=by
  intro p hp;simpa only[Yy,mem_cons,mem_nil_iff,or_false] using hp
 have n:((6000,zo.cells 51 2 (Tr.ofList [.slice 6001 0 32 32 true,.osl 6002 (.sym 2050)])):Nat×zo)∈Yy es.length:=mem_cons_self;have z:((6001,zo.cells 29 32 (Tr.ofList (Zc es.length))):Nat×zo)∈Yy es.length:=mem_cons_of_mem _ mem_cons_self;have x:((6002,zo.text 5 (.sym 2050)):Nat×zo)∈Yy es.length:=mem_cons_of_mem _ (mem_cons_of_mem _ mem_cons_self);refine znT (fun p hp=>?_) (Nat.le_refl _) (show WFs _ zak from zkY) (fun β' w hle d hb p hp=>?_) fun β' w hle U C c a d=>?_
 .rcases u p hp with rfl|rfl|rfl
  .exact(by decide:100<=6000)
  .exact(by decide:100<=6001)
  .exact(by decide:100<=6002)
 .have J:(β' 6000).isSome:=d.2.1.1;obtain⟨f,B⟩:=Option.isSome_iff_exists.1 J;obtain⟨arr,fz,_,I⟩:=hb _ n f B;have c0:=(I.cell 0 (.slice 6001 0 32 32 true) (by rw[Tr.qc];rfl)).1;have c1:=(I.cell 1 (.osl 6002 (.sym 2050)) (by rw[Tr.qc];rfl)).1;rcases u p hp with rfl|rfl|rfl
  .exact J
  .exact c0.1
  .exact c1.1
 .obtain⟨f,m,Y,N⟩:=c _ n;obtain⟨g,l,g1,M⟩:=c _ z;obtain⟨b,j,X,L⟩:=c _ x;have m:β' 6000=some f:=m;have l:β' 6001=some g:=l;have j:β' 6002=some b:=j
  have v:zc β' (.sym 2050) = .string (str R.qi.bytes):=by
   rw[(WF.mono hle _ (Q7 (by decide) (by decide))).2];exact KP.jO (by decide) (by decide) (show val R s1 s2 es 2050=_ from rfl) rfl
  obtain⟨_,_,C⟩:=QI hR h2 C;have r:(str R.qi.bytes).size=R.qi.bytes.length:=qm _;obtain⟨t1,t2⟩:=Ju X v;rw[r]at t1 t2;have G:=zw.of (by rfl) Y
  have el:zf β' [.slice 6001 0 32 32 true,.osl 6002 (.sym 2050)]=[.slice (some ⟨g.1,g.2.1,none⟩) 32 32,.slice (some ⟨b.1,b.2.1,none⟩) R.qi.bytes.length (R.qi.bytes.length+(b.2.2-R.qi.bytes.length))]:=by
   simp only[zf];rw[zc,zc,v];simp only[Inj.addr,Inj.blk,Inj.sh,Inj.ext,l,j,sOf,getD_some,r];rw[Nat.add_sub_cancel' t1];simp
  rw[el]at G;have D:=zw.of (by unfold Zc;rw[length_map,length_range]) g1;rw[(WFs.mono hle _ (ztB es.length A)).2,ztD A]at D
  have sep:∀(y:Nat×Nat×Nat),(∀t∈zP (qV (cnt R.up) (cnt R.down)) KP.tabs,(Unk.place t.1).1≠y.1)->∀p∈KP.tabs,p.1≠y.1:=by
   intro y Q p hp e;refine Q p (by rw[zT];exact List.mem_append_right _ hp) ?_;rw[Unk.glob p.1 (Vy p hp)];exact e
  have a:f.1≠g.1/\f.1≠b.1/\g.1≠b.1:=⟨fun e=>absurd (show(6000:Nat)=6001 from a _ n _ z _ _ m l e) (by decide),fun e=>absurd (show(6000:Nat)=6002 from a _ n _ x _ _ m j e) (by decide),fun e=>absurd (show(6001:Nat)=6002 from a _ z _ x _ _ l j e) (by decide)⟩
  have key:=KT.zBt P O (h:=qN (es.map (·.1))) (e:=zj9 R) (QX _) (Kz R) (px:=f) (hx:=g) (ex:=(b.1,b.2.1,b.2.2-R.qi.bytes.length)) G t2 a.1 a.2.1 a.2.2 D (sep _ N) (sep _ M) (sep (b.1,b.2.1,b.2.2-R.qi.bytes.length) L) (@zbt KP.unkK w (zfE C))
  have ea:(zf β' [.str KT.JA,.slice 6000 0 2 2 true]).toArray = #[.string (str KT.JA),.slice (some ⟨f.1,f.2.1,none⟩) 2 2]:=by
   simp[zf,zc,Inj.addr,Inj.blk,Inj.sh,m]
  have Z:zc β' (.agg zak) = .agg (zF 32 (J7 R.qi.bytes.length (qN (es.map (·.1))) (zj9 R))).toArray:=by
   rw[zc,(WFs.mono hle _ zkY).2,Wm,zdr];rfl
  rw[ea,Z];refine key.mono fun o w2 hq=>?_;obtain⟨q1,q2,K⟩:=hq;refine⟨q1,fun k A i=>q2 k A (i _ n f m) (i _ z g l) (i _ x b j),K⟩
end
section
variable[Unk]{γ:Inj}{H:Heap}{w:World}
theorem Q8{lo b t:Nat}{l:List zb}(hR:Rel prog γ H w)(h:(zh (H.row b) false fun r=>zn (Nat.ble lo b) (zn (Nat.beq r.t t) (zn (Nat.ble (qS l 0) r.n) (zh (Tr.JX (qS l 0) r.c 0) false fun cs=>kv cs l))))=true){x:Nat×Nat×Nat}(hx:γ b=some x):WFs γ l/\zw prog w x t (zf γ l)/\lo<=b:=by
 cases f:H.row b with
 | none=>rw[f]at h;cases h
 | some r=>
  rw[f,zd]at h;simp only[zk,Bool.and_eq_true,zu,beq_iff_eq,zG,decide_eq_true_eq,jE]at h;obtain⟨k,h1,h2,h3⟩:=h
  cases g:Tr.JX l.length r.c 0 with
  | none=>rw[g]at h3;cases h3
  | some cs=>
   rw[g,zd]at h3;obtain rfl:=jC _ _ h3;obtain⟨_,e⟩:=Tr.jx _ _ _ _ g;obtain⟨arr,fz,i,k2⟩:=hR.rowAt f (by rw[hx];rfl);simp only[Inj.blk,Inj.sh,Inj.ext,hx,getD_some]at i k2
   have a:∀j (d:j<cs.length),r.c.get j=some cs[j]:=fun j d=>by
    have:=e j d;rw[Nat.zero_add]at this;rw[this,List.getElem?_eq_getElem d]
   refine⟨?_,⟨arr,fz,by rw[<- h1];exact i,?_,k2.thaw,by rw[<- h1];exact k2.al,fun j d=>?_⟩,k⟩
   .rw[zV];intro v hv;obtain⟨j,d,rfl⟩:=List.getElem_of_mem hv;exact(k2.cell j _ (a j d)).1
   .rw[Jn];have:=k2.size;rw[h1]at this;exact Nat.le_trans (Nat.add_le_add_right (Nat.add_le_add_left h2 _) _) this
   .rw[Jn]at d;rw[W0,List.getElem?_eq_getElem d];exact(k2.cell j _ (a j d)).2
end
theorem zw.less{P:Program}{w:World}{x:Nat×Nat×Nat}{t:TypeId}{vs:List Value}(h:zw P w x t vs){e:Nat}(he:e<=x.2.2):zw P w (x.1,x.2.1,e) t vs:=by
 obtain⟨arr,fz,h1,h2,h3⟩:=h;exact⟨arr,fz,h1,Nat.le_trans (Nat.add_le_add_left (mul_le_mul_right _ he) _) h2,h3⟩
end AP
end
section
open Go.Proofs
namespace AP
open TR
open KT (zF J7)
theorem UO{p:Nat->Prop}(f:p 0)(h1:p 1)(h2:p 2)(h3:p 3)(e:p 4)(d:p 5)(c:p 6)(b:p 7)(a:p 8){k:Nat}(g:k<=8):p k:=by
 have:k=0\/k=1\/k=2\/k=3\/k=4\/k=5\/k=6\/k=7\/k=8:=by omega
 rcases this with rfl|rfl|rfl|rfl|rfl|rfl|rfl|rfl|rfl
 .exact f
 .exact h1
 .exact h2
 .exact h3
 .exact e
 .exact d
 .exact c
 .exact b
 .exact a
theorem yk{f:Nat->Nat->Bool}(h:yP f=true)(a b:Option ByteArray):f (cnt a) (cnt b)=true:=by
 unfold yP at h;simp only[zk,Bool.and_eq_true]at h;obtain⟨h1,h2,h3,c⟩:=h;cases a<;>cases b
 .exact h1
 .exact h2
 .exact h3
 .exact c
theorem zjU{k:Nat}(d:k<=8)(a b:Option ByteArray):(∀c,c<3->V2 k c (cnt a) (cnt b)=true)/\zdB k (cnt a) (cnt b)=true/\JL k (cnt a) (cnt b)=true:=by
 have h:=yk (UO (p:=fun k=>Yr k=true) zDv zDu zDt zDs zDr zDq zDp zDo zDn d) a b;simp only[zk,Bool.and_eq_true]at h;obtain⟨f,h1,h2,h3,e⟩:=h;refine⟨fun c hc=>?_,h3,e⟩;have:c=0\/c=1\/c=2:=by omega
 rcases this with rfl|rfl|rfl
 .exact f
 .exact h1
 .exact h2
theorem zjT{k:Nat}(e:k<=8)(a b:Option ByteArray){j i:Nat}(g:j<k)(hi:i<2){f:List Fact}(l:kY i (AP.bars j)=some f):zdC k (cnt a) (cnt b) j f=true:=by
 have h:=yk (UO (p:=fun k=>Yq k=true) zDm zDl zDk zDj zDi zDh zDg zDf zDe e) a b;have h1:=jh h j (List.mem_range.2 g)
 have c:i∈[0,1]:=by
  have d:i=0\/i=1:=by omega
  rcases d with rfl|rfl
  .exact mem_cons_self
  .exact mem_cons_of_mem _ mem_cons_self
 have h2:=jh h1 i c;rw[l,zd]at h2;exact h2
theorem JI{a b:Type}(d:a)(f:a->List b)(l:List a):l.flatMap f=(List.range l.length).flatMap fun j=>f ((l[j]?).getD d):=by
 have:l=(List.range l.length).map fun j=>(l[j]?).getD d:=by
  apply List.ext_getElem
  .simp
  .intro i h1 h2;simp[List.getElem?_eq_getElem h1]
 conv=>lhs;rw[this]
 rw[List.flatMap_map]
structure In(B:Nat->Prop)(w:World)(tv:Value)(es:List Ent)(R:zy)(v1 v2:Value):Prop where
 rec_:R.Ok
 few:es.length<=8
 qD:zU B w tv es
 up:AtS w v1 R.up
 down:AtS w v2 R.down
 tab:Z6 w
 new:∀c,w.heap.size<=c->B c
section
variable{R:zy}{s1 s2:ByteArray}{es:List Ent}{x1 x2:Nat×Nat×Nat}
theorem zhW{w:World}(hl:jo w es){j:Nat}(a:j<es.length)(g:j<9):letI:=unkA x1 x2 s1 s2 es
  (WF (KP.BN 6000 (val R s1 s2 es)) (ol j 0)/\zc (KP.BN 6000 (val R s1 s2 es)) (ol j 0)=((es[j]?).getD default).2.1)/\(WF (KP.BN 6000 (val R s1 s2 es)) (ol j 1)/\zc (KP.BN 6000 (val R s1 s2 es)) (ol j 1)=((es[j]?).getD default).2.2):=by
 letI:=unkA x1 x2 s1 s2 es;have hm:(es[j]?).getD default∈es:=by rw[List.getElem?_eq_getElem a];exact List.getElem_mem a
 obtain⟨l1,l2⟩:=hl _ hm
 have key:∀i,i<2->WF (KP.BN 6000 (val R s1 s2 es)) (ol j i)/\zc (KP.BN 6000 (val R s1 s2 es)) (ol j i)=opq es (72+2*j+i):=by
  intro i hi;have b:72+2*j+i<100:=by omega
  refine⟨by show(KP.BN 6000 (val R s1 s2 es) (72+2*j+i)).isSome=true;rw[Qu b];rfl,?_⟩;show qe ((KP.BN 6000 (val R s1 s2 es) (72+2*j+i)).getD (0,0,0))=_;rw[Qu b,getD_some];show qe (if 72+2*j+i=60 then x1 else if 72+2*j+i=61 then x2 else if 72+2*j+i=70 then yD s1 else if 72+2*j+i=71 then yD s2 else if 72<=72+2*j+i/\72+2*j+i<100 then(1000+(72+2*j+i),0,0) else(72+2*j+i,0,0))=_;rw[if_neg (by omega),if_neg (by omega),if_neg (by omega),if_neg (by omega),if_pos (by omega)];show opq es (1000+(72+2*j+i)-1000)=_;rw[Nat.add_sub_cancel_left]
 obtain⟨f,e⟩:=key 0 (by decide);obtain⟨d,c⟩:=key 1 (by decide);refine⟨⟨f,?_⟩,⟨d,?_⟩⟩
 .rw[e];unfold opq;rw[if_pos (by omega),show(72+2*j+0-72) / 2=j by omega,Qj (Qi l1)]
 .rw[c];unfold opq;rw[if_neg (by omega),show(72+2*j+1-72) / 2=j by omega,Qj (Qi l2)]
theorem JE{w:World}(hl:jo w es)(h:es.length<=8):letI:=unkA x1 x2 s1 s2 es
  WFs (KP.BN 6000 (val R s1 s2 es)) (kC es.length)/\zf (KP.BN 6000 (val R s1 s2 es)) (kC es.length)=cellsOf es:=by
 letI:=unkA x1 x2 s1 s2 es;constructor
 .rw[zV];intro v hv;obtain⟨j,d,hv⟩:=List.mem_flatMap.1 hv;have d:j<es.length:=List.mem_range.1 d;have c:j<9:=by omega
  obtain⟨⟨a,_⟩,⟨b,_⟩⟩:=zhW (R:=R) (x1:=x1) (x2:=x2) (s1:=s1) (s2:=s2) hl d c;simp only[mem_cons,mem_nil_iff,or_false]at hv;rcases hv with rfl|rfl|rfl|rfl|rfl|rfl|rfl|rfl|rfl|rfl|rfl|rfl|rfl|rfl
  .exact kj c (by decide)
  .exact kj c (by decide)
  .exact kj c (by decide)
  .exact kj c (by decide)
  .exact kj c (by decide)
  .exact kj c (by decide)
  .exact kj c (by decide)
  .exact kj c (by decide)
  .exact kj c (by decide)
  .exact a
  .exact b
  .exact kj c (by decide)
  .exact kj c (by decide)
  .exact kj c (by decide)
 .have g:cellsOf es=(List.range es.length).flatMap fun j=>ZB ((es[j]?).getD default):=JI _ ZB es;rw[g];clear g;unfold kC;have f:=zx (KP.BN 6000 (val R s1 s2 es)) ((List.range es.length).flatMap fun j=>[of j 0,of j 1,of j 2,of j 3,of j 4,of j 5,of j 6,of j 7,of j 8,ol j 0,ol j 1,of j 9,of j 10,of j 11]);rw[List.map_flatMap]at f;refine f.trans ?_;unfold List.flatMap;refine congrArg List.flatten ?_;refine List.map_congr_left fun j d=>?_;have d:j<es.length:=List.mem_range.1 d;have c:j<9:=by omega
  obtain⟨⟨_,a⟩,⟨_,b⟩⟩:=zhW (R:=R) (x1:=x1) (x2:=x2) (s1:=s1) (s2:=s2) hl d c;have e:∀i,i<12->zc (KP.BN 6000 (val R s1 s2 es)) (of j i)=(qT es j).at i:=fun i hi=>Q1 c hi;simp only[map_cons,map_nil];rw[a,b,e 0 (by decide),e 1 (by decide),e 2 (by decide),e 3 (by decide),e 4 (by decide),e 5 (by decide),e 6 (by decide),e 7 (by decide),e 8 (by decide),e 9 (by decide),e 10 (by decide),e 11 (by decide)];rfl
theorem FitA.alts[Unk]{E:Env}(hF:FitA E)(f t:Nat)(l:List (List (List Fact))):FitA (E.withAlts f t l):=⟨⟨hF.env.types,hF.env.funcs⟩,hF.count,hF.spec,hF.mixed⟩
theorem zCm(F:List Fact)(A:List (List (List Fact)))(p q:Nat)[Unk]:FitA (E F A p q):=by
 have:Fit (Zb prog AP.specs F (zP (qV p q) KP.tabs)):=yT KP.jW KP.ZJ (fun p hp=>by
  have hp:p∈[((30:FuncId),Spec.fact),((31:FuncId),Spec.fact),((32:FuncId),Spec.fact)]:=hp;simp only[mem_cons,mem_nil_iff,or_false]at hp
  rcases hp with rfl|rfl|rfl<;>trivial)
 exact FitA.alts this.toFitA 12 58 A
end
end AP
end
section
open Go.Proofs
namespace AP
open TR
open KT (zF J7)
theorem jb{k:Nat}{p:Nat×zo}(hp:p∈rows k):p=(6000,zo.cells 96 2 (Tr.ofList [Zu k,.slice 6002 0 (Nat.succ k) (Nat.succ k) false]))\/(k≠0/\p=(6001,zo.cells 42 (Nat.mul 14 k) (Tr.ofList (kC k))))\/p=(6002,zo.cells 29 (Nat.mul 32 (Nat.succ k)) (Tr.ofList (yO k))):=by
 unfold rows at hp;rcases List.mem_cons.1 hp with h|h
 .exact .inl h
 .rw[zT]at h;rcases List.mem_append.1 h with h|h
  .cases k with
   | zero=>cases h
   | succ k=>exact .inr (.inl ⟨by omega,List.mem_singleton.1 h⟩)
  .exact .inr (.inr (List.mem_singleton.1 h))
theorem zac(k:Nat):(6000,zo.cells 96 2 (Tr.ofList [Zu k,.slice 6002 0 (Nat.succ k) (Nat.succ k) false]))∈rows k:=mem_cons_self
theorem zab{k:Nat}(a:k≠0):(6001,zo.cells 42 (Nat.mul 14 k) (Tr.ofList (kC k)))∈rows k:=by
 cases k with
 | zero=>exact absurd rfl a
 | succ k=>exact mem_cons_of_mem _ (by rw[zT];exact List.mem_append_left _ (List.mem_singleton.2 rfl))
theorem zaa(k:Nat):(6002,zo.cells 29 (Nat.mul 32 (Nat.succ k)) (Tr.ofList (yO k)))∈rows k:=mem_cons_of_mem _ (by rw[zT];exact List.mem_append_right _ (List.mem_singleton.2 rfl))
theorem zgc{k:Nat}{H:Heap}(h:kept k H=true):∀p∈rows k,H.blk.get p.1=some p.2:=by
 intro p hp;have:=KP.ZD (α:=Nat×zo) (p:=fun q=>zh (H.blk.get q.1) false fun b=>Zh b q.2) (l:=rows k) h p hp
 cases a:H.blk.get p.1 with
 | none=>rw[a]at this;cases this
 | some b=>
  rw[a,zd]at this;rw[yy this]
theorem yE(k:Nat):(kC k).length=14*k:=by
 unfold kC
 induction k with
 | zero=>rfl
 | succ k a=>rw[List.range_succ,List.flatMap_append,length_append,a,List.flatMap_singleton];show 14*k+14=_;omega
theorem YN(k:Nat):(yO k).length=32*(k+1):=by unfold yO;rw[length_map,length_range];rfl
section
variable{R:zy}{s1 s2:ByteArray}{es:List Ent}{v1 v2:Value}{x1 x2:Nat×Nat×Nat}{w:World}{tv:Value}{B:Nat->Prop}
theorem zbU{F : List Fact}{A : List (List (List Fact))}{ok : zb -> Heap -> Bool}(i : In B w tv es R v1 v2)(h2 : Two w R v1 v2 x1 x2 s1 s2)
    (hf : letI := unkA x1 x2 s1 s2 es; ∀f ∈ F, zq prog (zP (qV (cnt R.up) (cnt R.down)) KP.tabs) (KP.BN 6000 (val R s1 s2 es)) f)
    (hA : letI := unkA x1 x2 s1 s2 es; ∀(i : Nat) l, A[i]?=some l -> ∃alt ∈ l, ∀f ∈ alt, zq prog (zP (qV (cnt R.up) (cnt R.down)) KP.tabs) (KP.BN 6000 (val R s1 s2 es)) f)
    (hk : ∀v H, ok v H = true -> kept es.length H = true) (hchk : run F A es.length (cnt R.up) (cnt R.down) ok = true) :
    Calls prog 12 #[tv, .agg (R.l1 ++ v1 :: v2 :: R.l2).toArray] w fun e w2 => qy w w2 /\ Zy B w w2 /\ zU B w2 tv es /\
      (letI := unkA x1 x2 s1 s2 es; ∃C v H', e = .returned (zc C v) /\ WF C v /\ (KP.BN 6000 (val R s1 s2 es)).le C /\ Rel prog C H' w2 /\ ok v H' = true /\ ∀id x, 6003 <= id -> C id = some x -> B x.1) := by
  letI := unkA x1 x2 s1 s2 es;obtain⟨⟨x, hd, r, rfl, Q, P, rr, bx, bh, br⟩, hl⟩ := i.qD
  obtain⟨rx, q1, q2⟩ : ∃rx : Nat × Nat × Nat, (es = [] -> r = .slice none 0 0 /\ rx = x) /\ (es ≠ [] -> r = .slice (some ⟨rx.1, rx.2.1, none⟩) es.length (es.length + rx.2.2) /\ zw prog w rx 42 (cellsOf es)) := by
    by_cases he : es = []
    · exact⟨x, fun _ => ⟨rr.1 he, rfl⟩, fun h => absurd he h⟩
    · obtain⟨y, h1, h2⟩ := rr.2 he
      exact⟨y, fun h => absurd h he, fun _ => ⟨h1, h2⟩⟩
  have hne : es.length ≠ 0 -> es ≠ [] := fun h e => h (by rw[e]; rfl);unfold run at hchk;let E' := E F A (cnt R.up) (cnt R.down)
  cases hr : qj E' (jg E' 1000000) 12 [.ptr 6000 0, yX (cnt R.up) (cnt R.down)] (qR E' 6003 (rows es.length)) with
  | none => rw[show qj (E F A (cnt R.up) (cnt R.down)) (jg (E F A (cnt R.up) (cnt R.down)) 1000000) 12 [.ptr 6000 0, yX (cnt R.up) (cnt R.down)] (qR (E F A (cnt R.up) (cnt R.down)) 6003 (rows es.length)) = none from hr] at hchk; cases hchk
  | some z =>
    obtain⟨v, H'⟩ := z;rw[show qj (E F A (cnt R.up) (cnt R.down)) (jg (E F A (cnt R.up) (cnt R.down)) 1000000) 12 [.ptr 6000 0, yX (cnt R.up) (cnt R.down)] (qR (E F A (cnt R.up) (cnt R.down)) 6003 (rows es.length)) = some (v, H') from hr, zd] at hchk;let σ := KP.JU 6000 (val R s1 s2 es)
    let pl : Nat -> Nat × Nat × Nat := fun id => if id = 6000 then x else if id = 6001 then rx else hd
    let β := qB σ 6000 3 pl
    have hle : (KP.BN 6000 (val R s1 s2 es)).le β := jT (by decide) KP.qU;have b0 : β 6000 = some x := qv (by decide) (by decide);have b1 : β 6001 = some rx := qv (by decide) (by decide);have b2 : β 6002 = some hd := qv (by decide) (by decide);obtain⟨a1, a2⟩ := JE (R := R) (x1 := x1) (x2 := x2) (s1 := s1) (s2 := s2) hl i.few;have a3 := Yc (R := R) (s1 := s1) (s2 := s2) (es := es) es.length (by have := i.few; omega);have a4 := Zn (R := R) (s1 := s1) (s2 := s2) (es := es) (by have := i.few; omega);obtain⟨a5, a6⟩ := ZC (es := es) i.rec_ h2
    have hin : ∀p ∈ rows es.length, 6000 <= p.1 /\ p.1 < 6000 + 3 := by
      intro p hp;rcases jb hp with rfl|⟨_, rfl⟩|rfl
      · exact⟨by show 6000 <= 6000; omega, by show 6000 < 6003; omega⟩
      · exact⟨by show 6000 <= 6001; omega, by show 6001 < 6003; omega⟩
      · exact⟨by show 6000 <= 6002; omega, by show 6002 < 6003; omega⟩
    have G : ∀C : Inj, C 6000 = some x -> C 6001 = some rx -> C 6002 = some hd -> WFs C [Zu es.length, .slice 6002 0 (Nat.succ es.length) (Nat.succ es.length) false] /\
        zf C [Zu es.length, .slice 6002 0 (Nat.succ es.length) (Nat.succ es.length) false] = [r, .slice (some ⟨hd.1, hd.2.1, none⟩) (es.length + 1) (es.length + 1 + hd.2.2)] := by
      intro C c0 c1 c2
      have hs : WF C (Zu es.length) /\ zc C (Zu es.length) = r := by
        by_cases he : es = []
        · rw[(q1 he).1, he]
          exact⟨trivial, rfl⟩
        · rw[(q2 he).1]
          cases hes : es.length with
          | zero => exact absurd (eq_nil_of_length_eq_zero hes) he
          | succ n =>
            refine⟨⟨by rw[c1]; rfl, Nat.le_refl _⟩, ?_⟩;show zc C (.slice 6001 0 (n + 1) (n + 1) false) = _;simp[zc, Inj.addr, Inj.blk, Inj.sh, Inj.ext, c1]
      refine⟨⟨hs.1, ⟨by rw[c2]; rfl, Nat.le_refl _⟩, trivial⟩, ?_⟩;simp only[zf];rw[hs.2];simp[zc, Inj.addr, Inj.blk, Inj.sh, Inj.ext, c2]
    have hblk : ∀p ∈ rows es.length, zH prog β p.2 (pl p.1) w := by
      intro p hp;rcases jb hp with rfl|⟨hn, rfl⟩|rfl
      · exact zw.blk (l := [Zu es.length, .slice 6002 0 (Nat.succ es.length) (Nat.succ es.length) false]) rfl (G β b0 b1 b2).1 (by rw[(G β b0 b1 b2).2]; exact Q)
      · exact zw.blk (l := kC es.length) (yE _) (WFs.mono hle _ a1).1 (by rw[(WFs.mono hle _ a1).2, a2]; exact(q2 (hne hn)).2)
      · exact zw.blk (l := yO es.length) (YN _) (WFs.mono hle _ a3).1 (by rw[(WFs.mono hle _ a3).2, a4]; exact P)
    have types : ∀p ∈ rows es.length, ∃(arr : Array Value) (fz : Nat × Nat) (t : Nat), w.heap[(pl p.1).1]?=some (Obj.cells arr t fz) /\ (p.1 = 6000 /\ t = 96 \/ p.1 = 6001 /\ t = 42 \/ p.1 = 6002 /\ t = 29) := by
      intro p hp;rcases jb hp with rfl|⟨hn, rfl⟩|rfl
      · obtain⟨arr, fz, g, _⟩ := Q
        exact⟨arr, fz, 96, g, .inl ⟨rfl, rfl⟩⟩
      · obtain⟨arr, fz, g, _⟩ := (q2 (hne hn)).2
        exact⟨arr, fz, 42, g, .inr (.inl ⟨rfl, rfl⟩)⟩
      · obtain⟨arr, fz, g, _⟩ := P
        exact⟨arr, fz, 29, g, .inr (.inr ⟨rfl, rfl⟩)⟩
    have hinj : ∀p ∈ rows es.length, ∀q ∈ rows es.length, (pl p.1).1 = (pl q.1).1 -> p.1 = q.1 := by
      intro p hp q hq e;obtain⟨arr, fz, t, g1, Z⟩ := types p hp;obtain⟨d, k, t', M, g4⟩ := types q hq;rw[e, M] at g1;simp only[Option.some.injEq, Obj.cells.injEq] at g1;have : (_ : Nat) = (_ : Nat) := g1.2.1;omega
    have hsep : ∀p ∈ rows es.length, ∀t ∈ zP (qV (cnt R.up) (cnt R.down)) KP.tabs, (Unk.place t.1).1 ≠ (pl p.1).1 := by
      intro p hp t D e;obtain⟨arr, fz, u, g1, Z⟩ := types p hp;rw[<- e] at g1
      have key : ∃(d : Array Value) (k : Nat × Nat) (J : Nat), w.heap[(Unk.place t.1).1]?=some (Obj.cells d J k) /\ (J = 3 \/ J = 401 \/ J = 403) := by
        rcases zR D with D|D
        · unfold qV at D
          rcases zR D with D|D
          · have hb := QK h2.a (β := fun id => some (Unk.place id)) (fun _ _ => rfl) (b := 60) (q := 70) (by decide) rfl rfl t D
            have : t = (60, .ints 3 (.sym 70)) := by
              cases ho : R.up with
              | none => rw[ho] at D; cases D
              | some o => rw[ho] at D; exact List.mem_singleton.1 D
            subst this;obtain⟨d, k, L, _⟩ := hb;exact⟨d, k, 3, L, .inl rfl⟩
          · have hb := QK h2.b (β := fun id => some (Unk.place id)) (fun _ _ => rfl) (b := 61) (q := 71) (by decide) rfl rfl t D
            have : t = (61, .ints 3 (.sym 71)) := by
              cases ho : R.down with
              | none => rw[ho] at D; cases D
              | some o => rw[ho] at D; exact List.mem_singleton.1 D
            subst this;obtain⟨d, k, L, _⟩ := hb;exact⟨d, k, 3, L, .inl rfl⟩
        · rw[Unk.glob t.1 (Vy t D)]
          obtain⟨⟨d, k, L, _⟩, ⟨X, fz'', k2, _⟩⟩ := i.tab;simp only[KP.tabs, mem_cons, mem_nil_iff, or_false] at D;rcases D with rfl|rfl
          · exact⟨d, k, 401, L, .inr (.inl rfl)⟩
          · exact⟨X, fz'', 403, k2, .inr (.inr rfl)⟩
      obtain⟨d, k, J, M, g4⟩ := key;rw[M] at g1;simp only[Option.some.injEq, Obj.cells.injEq] at g1;have : (_ : Nat) = (_ : Nat) := g1.2.1;omega
    have hfacts : zC E' (zJ σ) := hf
    have U : Yx E' (zJ σ) := by
      intro fn q hq j l hl;have hq : (Tr.set .nil 12 ((58 : Nat), A)).get fn = some q := hq;rw[Tr.zK] at hq;split at hq
      · cases hq
        exact hA j l hl
      · rw[Tr.get_nil] at hq; cases hq
    have := ZG (E := E') (σ := σ) (N := 6000) (m := 3) (pl := pl) (zCm F A _ _) (by decide) KP.qU hfacts U (zmS _ _) (Vv i.rec_ h2 (zbt i.tab)) hin hblk hinj hsep hr ⟨by show(β 6000).isSome = true; rw[b0]; rfl, (WF.mono hle _ a5).1, trivial⟩
    have ea : (zf β [.ptr 6000 0, yX (cnt R.up) (cnt R.down)]).toArray = #[.pointer (some ⟨x.1, x.2.1, none⟩), .agg (R.l1 ++ v1 :: v2 :: R.l2).toArray] := by
      rw[zf, zf, zf, (WF.mono hle _ a5).2, a6];simp[zc, Inj.addr, Inj.blk, Inj.sh, b0]
    rw[ea] at this;refine this.mono fun e w2 hx => ?_;obtain⟨Y, C, rfl, g1, Z, M, g4⟩ := hx
    have lowγ : (KP.BN 6000 (val R s1 s2 es)).le C := fun id y hy => by
      have hid : id < 6000 := by
        rcases Nat.lt_or_ge id 6000 with h|h
        · exact h
        · rw[KP.YK (by decide) id h] at hy; cases hy
      rw[Z id (by omega)];exact hle id y hy
    have c0 : C 6000 = some x := by rw[Z 6000 (by decide)]; exact b0
    have c1 : C 6001 = some rx := by rw[Z 6001 (by decide)]; exact b1
    have c2 : C 6002 = some hd := by rw[Z 6002 (by decide)]; exact b2
    have hB : ∀j, 6000 <= j -> j < 6000 + 3 -> B (pl j).1 := by
      intro j j1 j2;have hj : j = 6000 \/ j = 6001 \/ j = 6002 := by omega
      rcases hj with rfl|rfl|rfl
      · exact bx
      · by_cases he : es = []
        · show B rx.1
          rw[(q1 he).2];exact bx
        · exact br _ _ _ (q2 he).1
      · exact bh
    have hlow : ∀c, c < w.heap.size -> ¬B c -> w2.heap[c]?=w.heap[c]? := fun c hc hn => Y.frame c hc fun j j1 j2 e => hn (e ▸ hB j j1 j2)
    have hk3 : Zy B w w2 := by
      refine⟨fun c arr t fz hc n1 n2 n3 => Y.frame c (Array.getElem?_eq_some_iff.1 hc).1 fun j j1 j2 e => ?_, hlow⟩
      have key : ∃(d : Array Value) (k : Nat × Nat) (J : Nat), w.heap[(pl j).1]?=some (Obj.cells d J k) /\ (J = 96 \/ J = 42 \/ J = 29) := by
        obtain⟨O, fz0, z0, _⟩ := Q;obtain⟨arr2, fz2, z2, _⟩ := P;have hj : j = 6000 \/ j = 6001 \/ j = 6002 := by omega
        rcases hj with rfl|rfl|rfl
        · exact⟨O, fz0, 96, z0, .inl rfl⟩
        · by_cases he : es = []
          · refine⟨O, fz0, 96, ?_, .inl rfl⟩
            show w.heap[rx.1]?=_;rw[(q1 he).2];exact z0
          · obtain⟨arr1, fz1, z1, _⟩ := (q2 he).2
            exact⟨arr1, fz1, 42, z1, .inr (.inl rfl)⟩
        · exact⟨arr2, fz2, 29, z2, .inr (.inr rfl)⟩
      obtain⟨d, k, J, L, k2⟩ := key;rw[e, hc] at L;simp only[Option.some.injEq, Obj.cells.injEq] at L;have T : t = J := L.2.1;rcases k2 with k2|k2|k2
      · exact n1 (T.trans k2)
      · exact n2 (T.trans k2)
      · exact n3 (T.trans k2)
    have K : qy w w2 := ⟨fun c arr t fz hc n1 n2 n3 _ => hk3.1 c arr t fz hc n1 n2 n3, Y.size, Y.tape, Y.os, Y.output⟩
    have I := zgc (hk v H' hchk);refine⟨K, hk3, ⟨⟨x, hd, r, rfl, ?_, ?_, ⟨rr.1, fun he => ?_⟩, bx, bh, br⟩, K.lists hl⟩, C, v, H', rfl, g1, lowγ, M, hchk, fun id x hid hx => ?_⟩
    · have := zw.of (l := [Zu es.length, .slice 6002 0 (Nat.succ es.length) (Nat.succ es.length) false]) rfl (M.blk 6000 _ x (I _ (zac _)) c0)
      rwa[(G C c0 c1 c2).2] at this
    · have := zw.of (l := yO es.length) (YN _) (M.blk 6002 _ hd (I _ (zaa _)) c2)
      rwa[(WFs.mono lowγ _ a3).2, a4] at this
    · have hn : es.length ≠ 0 := fun h => he (eq_nil_of_length_eq_zero h)
      have := zw.of (l := kC es.length) (yE _) (M.blk 6001 _ rx (I _ (zab hn)) c1);rw[(WFs.mono lowγ _ a1).2, a2] at this;exact⟨rx, (q2 he).1, this⟩
    · rcases g4 id x hid hx with h|⟨p, hp, h⟩
      · exact i.new _ h
      · obtain⟨z1, z2⟩ := hin p hp
        rw[<- h];exact hB p.1 z1 z2
end
end AP
end
section
open Go.Proofs
namespace AP
open TR
open KT (zF J7)
theorem YC{k:Nat}{e v:zb}{H:Heap}(h:zaO k e v H=true):v = .tuple [.nilp,e]/\kept k H=true:=by
 unfold zaO at h;simp only[zk,Bool.and_eq_true]at h;exact⟨zM _ _ h.1,h.2⟩
theorem Xl{v:zb}{n:Nat}{f:Nat->Bool}(h:zeb v n f=true):∃b e,v = .slice b 0 n n e/\f b=true:=by
 cases v<;>simp only[zeb]at h<;>first|(cases h;done)|skip
 rename_i b o m c e;simp only[zk,Bool.and_eq_true,zu,beq_iff_eq]at h;obtain⟨rfl,rfl,rfl,h⟩:=h;exact⟨b,e,rfl,h⟩
structure zoQ(k p q:Nat)(v:zb)(H:Heap):Prop where
 ex:∃b sb hb e1 e2 u d,v = .tuple [.ptr b 0,zX 0]/\Qn H b 96 [.slice sb 0 (Nat.succ k) (Nat.succ k) e1,.slice hb 0 (Nat.add k 2) (Nat.add k 2) e2]=true/\Qn H hb 29 (zP (yO k) zak)=true/\Ud u p 70 H=true/\Ud d q 71 H=true /\
  Qn H sb 42 (zP (kC k) [nf 0,nf 1,nf 2,nf 3,nf 4,nf 5,nf 6,nf 7,nf 8,u,d,nf 9,nf 10,nf 11])=true
theorem zhX{k p q:Nat}{v:zb}{H:Heap}(h:zaN k p q v H=true):kept k H=true/\zoQ k p q v H:=by
 cases v<;>simp only[zaN]at h<;>first|(cases h;done)|skip
 rename_i l
 cases l with
 | nil=>cases h
 | cons a m=>
  simp only[lC]at h;rw[zk,Bool.and_eq_true,zk,Bool.and_eq_true]at h;obtain⟨h1,h2,h3⟩:=h;obtain rfl:=jC _ _ h1;refine⟨h2,?_⟩;cases a<;>simp only at h3<;>first|(cases h3;done)|skip
  rename_i b o;rw[zk,Bool.and_eq_true,zu,beq_iff_eq]at h3;obtain⟨rfl,h3⟩:=h3
  cases j:H.row b with
  | none=>rw[j]at h3;cases h3
  | some r=>
   rw[j,zd]at h3
   cases hs:r.c.get 0 with
   | none=>rw[hs]at h3;cases h3
   | some s=>
    rw[hs,zd]at h3
    cases hh:r.c.get 1 with
    | none=>rw[hh]at h3;cases h3
    | some hd=>
     rw[hh,zd]at h3;obtain⟨f,A,rfl,h3⟩:=Xl h3;obtain⟨hb,z,rfl,h3⟩:=Xl h3;rw[zk,Bool.and_eq_true,zk,Bool.and_eq_true]at h3;obtain⟨g1,y,h3⟩:=h3
     cases hq:H.row f with
     | none=>rw[hq]at h3;cases h3
     | some g=>
      rw[hq,zd]at h3
      cases i:g.c.get (Nat.add (Nat.mul 14 k) 9) with
      | none=>rw[i]at h3;cases h3
      | some u=>
       rw[i,zd]at h3
       cases e:g.c.get (Nat.add (Nat.mul 14 k) 10) with
       | none=>rw[e]at h3;cases h3
       | some d=>
        rw[e,zd,zk,Bool.and_eq_true,zk,Bool.and_eq_true]at h3;obtain⟨x,t,n⟩:=h3;exact⟨b,f,hb,A,z,u,d,rfl,g1,y,x,t,n⟩
section
variable{R:zy}{s1 s2:ByteArray}{es:List Ent}{v1 v2:Value}{x1 x2:Nat×Nat×Nat}{w:World}{tv:Value}{B:Nat->Prop}
theorem zbg[Unk]{a:Inj}{H:Heap}{w w2:World}{o:Option ByteArray}{v:Value}{x:Nat×Nat×Nat}{s:ByteArray}(h:Slot w v o x s){u:zb}{q:Nat}(hR:Rel prog a H w2)(hc:Ud u (cnt o) q H=true)(j:WF a u)(hq:zc a (.sym q) = .string s):AtS w2 (zc a u) o:=by
 cases o with
 | none=>
  have hc:qs u .nilslice=true:=hc;rw[zM _ _ hc]
  rfl
 | some t=>
  obtain⟨rfl,_⟩:=h.some_ t rfl;cases u<;>first|(exact absurd (show false=true from hc) (by decide))|skip
  rename_i b z;have hc:zn (Nat.ble 6003 b) (zn (qs z (.sym q)) (zh (H.blk.get b) false fun x=>Zh x (.ints 3 (.sym q))))=true:=hc;rw[zk,Bool.and_eq_true,zk,Bool.and_eq_true]at hc;obtain⟨_,h2,h3⟩:=hc;obtain rfl:=zM _ _ h2
  cases d:H.blk.get b with
  | none=>rw[d]at h3;cases h3
  | some y=>
   rw[d,zd]at h3;obtain rfl:=yy h3;obtain⟨z,e⟩:=Option.isSome_iff_exists.1 j.1;obtain⟨arr,fz,g,k2⟩:=hR.blk _ _ z d e;obtain⟨l,f,k⟩:=k2.is;rw[hq]at f;cases f;refine⟨z,arr,fz,?_,g,k,k2.size,fun i c hc=>k2.cell i c (by rw[hq];exact hc),k2.thaw⟩;rw[zc,hq];simp[sOf,Inj.addr,Inj.blk,Inj.sh,Inj.ext,e]
theorem YY(j:Nat)(c:j<=8)(hb:∀i,i<j->¬TR.bars (qT es i) R):letI:=unkA x1 x2 s1 s2 es
  ∀(i:Nat) l,(Kd j)[i]?=some l->∃alt∈l,∀f∈alt,zq prog (zP (qV (cnt R.up) (cnt R.down)) KP.tabs) (KP.BN 6000 (val R s1 s2 es)) f:=by
 letI:=unkA x1 x2 s1 s2 es;intro i l hl;unfold Kd at hl;rw[List.getElem?_map]at hl;obtain⟨a,b,rfl⟩:=Option.map_eq_some_iff.1 hl;have hi:i<j:=by have:=(List.getElem?_eq_some_iff.1 b).1;simpa using this
 rw[List.getElem?_range hi]at b;cases b;exact Kj (by omega) (hb i hi)
theorem WY{j:Nat}(a:j<es.length):qT es j∈es.map (·.1):=by
 unfold qT;rw[List.getElem?_eq_getElem a];exact List.mem_map.2 ⟨es[j],List.getElem_mem a,rfl⟩
theorem zbC{x:zy}(hx:x∈es.map (·.1)):∃j,j<es.length/\qT es j=x:=by
 obtain⟨e,he,rfl⟩:=List.mem_map.1 hx;obtain⟨j,a,rfl⟩:=List.getElem_of_mem he;exact⟨j,a,by unfold qT;rw[List.getElem?_eq_getElem a];rfl⟩
theorem zbm(i : In B w tv es R v1 v2) : Calls prog 12 #[tv, .agg (R.l1 ++ v1 :: v2 :: R.l2).toArray] w fun e w2 => qy w w2 /\ Zy B w w2 /\ zU B w2 tv es /\ ∃t2, e = .returned (.tuple #[t2, .int .i64 (qZ (es.map (·.1)) R : Nat)]) /\
    (qZ (es.map (·.1)) R ≠ 0 -> t2 = .pointer none) /\ (qZ (es.map (·.1)) R = 0 -> ∃u1 u2, zU B w2 t2 (es ++ [(R, u1, u2)])) := by
  obtain⟨x1, s1, k1⟩ := J2 i.up;obtain⟨x2, s2, k2⟩ := J2 i.down;have h2 : Two w R v1 v2 x1 x2 s1 s2 := ⟨k1, k2⟩
  have hR := i.rec_;letI := unkA x1 x2 s1 s2 es;obtain⟨r1, r2, r3⟩ := zjU i.few R.up R.down;have r := ZH (R := R) (s1 := s1) (s2 := s2) (es := es) (tabs := zP (qV (cnt R.up) (cnt R.down)) KP.tabs) hR es.length
  have Q : ∀(i : Nat) (l : List (List Fact)), ([] : List (List (List Fact)))[i]?=some l -> ∃alt ∈ l, ∀f ∈ alt, zq prog (zP (qV (cnt R.up) (cnt R.down)) KP.tabs) (KP.BN 6000 (val R s1 s2 es)) f := by
    intro i l hl;cases hl
  have bad : ∀(n : Nat) {e : Ending} {w2 : World} {γ : Inj} {a : zb}, qZ (es.map (·.1)) R = n -> n ≠ 0 -> zc γ a = .int .i64 (n : Nat) -> qy w w2 -> Zy B w w2 -> zU B w2 tv es -> e = .returned (zc γ (.tuple [.nilp, a])) ->
      qy w w2 /\ Zy B w w2 /\ zU B w2 tv es /\ ∃t2, e = .returned (.tuple #[t2, .int .i64 (qZ (es.map (·.1)) R : Nat)]) /\ (qZ (es.map (·.1)) R ≠ 0 -> t2 = .pointer none) /\ (qZ (es.map (·.1)) R = 0 -> ∃u1 u2, zU B w2 t2 (es ++ [(R, u1, u2)])) := by
    intro n e w2 γ a hn h0 ha hk hk3 ht he;refine⟨hk, hk3, ht, .pointer none, ?_, fun _ => rfl, fun h => absurd (hn.symm.trans h) h0⟩;rw[he, zc];simp only[zf];rw[ha, hn];rfl
  by_cases hc : Ve es.length R < 3
  · have hn : qZ (es.map (·.1)) R = 2 := by
      unfold qZ;rw[length_map, if_pos];unfold Ve at hc;split at hc
      · rename_i h; exact .inl h
      · split at hc
        · rename_i h; exact .inr (.inl h)
        · split at hc
          · rename_i h; exact .inr (.inr h)
          · omega
    refine(zbU (F := ZI es.length (Ve es.length R)) (A := []) (ok := zaO es.length (zX 2)) i h2 r Q (fun v H h => (YC h).2) (r1 _ hc)).mono fun e w2 hx => ?_;obtain⟨K, G, N, γ, v, H', rfl, _, _, _, D, _⟩ := hx;rw[(YC D).1];exact bad 2 hn (by decide) (γ := γ) (a := zX 2) rfl K G N rfl
  · have J : Ve es.length R = 3 := by
      unfold Ve at hc ⊢;split at hc
      · omega
      · split at hc
        · omega
        · split at hc
          · omega
          · rename_i h1 h2 h3
            rw[if_neg h1, if_neg h2, if_neg h3]
    rw[J] at r
    have hN : ¬(R.number ≠ ((es.map (·.1)).length + 1 : Nat) \/ R.version < 0 \/ 30000 < R.day) := by
      rw[length_map];unfold Ve at J;split at J
      · omega
      · split at J
        · omega
        · split at J
          · omega
          · rename_i h1 h2 h3
            rintro(h|h|h)
            · exact h1 h
            · exact h2 h
            · exact h3 h
    by_cases he : R.err = 0
    · obtain⟨j, j1, j2, j3⟩ := YO (fun j => TR.bars (qT es j) R) es.length
      by_cases Y : j < es.length
      · have hn : qZ (es.map (·.1)) R = 7 := by
          unfold qZ;rw[if_neg hN, if_neg (fun h => h he), if_pos ⟨_, WY Y, j3 Y⟩]
        obtain⟨m, m1, f, m2, m3⟩ := Uw (R := R) (s1 := s1) (s2 := s2) (es := es) (tabs := zP (qV (cnt R.up) (cnt R.down)) KP.tabs) (by have := i.few; omega) (j3 Y);refine(zbU (F := zP (ZI es.length 3) (V4 (cnt R.up) (cnt R.down) (zX 0) :: f)) (A := Kd j) (ok := zaO es.length (zX 7)) i h2 (fun g t => ?_) (YY j (by have := i.few; omega) j2) (fun v H h => (YC h).2) (zjT i.few R.up R.down Y m1 m2)).mono fun e w2 hx => ?_
        · rcases zR t with t|t
          · exact r g t
          · rcases List.mem_cons.1 t with rfl|t
            · exact V3 hR h2 trivial (by rw[he]; rfl)
            · exact m3 g t
        · obtain⟨K, G, N, γ, v, H', rfl, _, _, _, D, _⟩ := hx
          rw[(YC D).1];exact bad 7 hn (by decide) (γ := γ) (a := zX 7) rfl K G N rfl
      · have hjk : j = es.length := by omega
        have T : ∀x ∈ es.map (·.1), ¬TR.bars x R := by
          intro x hx;obtain⟨n, n1, rfl⟩ := zbC hx;exact j2 n (by omega)
        have hn : qZ (es.map (·.1)) R = 0 := by
          unfold qZ;rw[if_neg hN, if_neg (fun h => h he), if_neg (fun h => by obtain⟨x, hx, hb⟩ := h; exact T x hx hb)]
        obtain⟨t, _, hd, _⟩ := ziQ hR hn;have L : es.length <= 9 := by have := i.few; omega
        refine(zbU (F := zP (ZI es.length 3) (V4 (cnt R.up) (cnt R.down) (zX 0) :: zxn (cnt R.up) (cnt R.down) :: zfB es.length :: zP (jY (cnt R.up) 70 2070) (jY (cnt R.down) 71 2071))) (A := Kd es.length) (ok := zaN es.length (cnt R.up) (cnt R.down)) i h2 (fun g o => ?_)
          (YY es.length i.few (fun n n1 => T _ (WY n1))) (fun v H h => (zhX h).1) r3).mono fun e w2 hx => ?_
        · rcases zR o with o|o
          · exact r g o
          · rcases List.mem_cons.1 o with rfl|o
            · exact V3 hR h2 trivial (by rw[he]; rfl)
            rcases List.mem_cons.1 o with rfl|o
            · exact zrL hR h2 t
            rcases List.mem_cons.1 o with rfl|o
            · exact zb5 hR h2 t hd L
            · exact YH hR h2 g o
        · obtain⟨K, G, N, γ, v, H', rfl, hwf, hle, C, D, I⟩ := hx
          obtain⟨b, sb, hb, e1, e2, u, d, rfl, g1, g2, g3, g4, g5⟩ := (zhX D).2.ex;obtain⟨P, cb⟩ := Option.isSome_iff_exists.1 (show(γ b).isSome = true from hwf.1);obtain⟨f1, f2, lo1⟩ := Q8 (lo := 6003) C g1 cb;obtain⟨xs, cs⟩ := Option.isSome_iff_exists.1 f1.1.1;obtain⟨O, ch⟩ := Option.isSome_iff_exists.1 f1.2.1.1;obtain⟨_, f4, lo2⟩ := Q8 (lo := 6003) C g2 ch;obtain⟨f5, U, lo3⟩ := Q8 (lo := 6003) C g5 cs;rw[zT] at f4 f5 U;obtain⟨o1, o2⟩ := JE (R := R) (x1 := x1) (x2 := x2) (s1 := s1) (s2 := s2) i.qD.lists i.few;have M := Yc (R := R) (s1 := s1) (s2 := s2) (es := es) es.length L
          have f4' : zw prog w2 O 29 (VS ((es ++ [(R, zc γ u, zc γ d)]).map (·.1))) := by
            rw[KT.W4, (WFs.mono hle _ M).2, Zn L, (WFs.mono hle _ zkY).2, Wm, <- zkI] at f4;rw[List.map_append];exact f4
          have k : ∀n, n < 12 -> zc γ (nf n) = R.at n := fun n hn => by rw[(WF.mono hle _ (yY (R := R) (s1 := s1) (s2 := s2) (es := es) hn)).2, yZ hn]
          have f6' : zw prog w2 xs 42 (cellsOf (es ++ [(R, zc γ u, zc γ d)])) := by
            rw[KT.W4, (WFs.mono hle _ o1).2, o2] at U;rw[V5];simp only[zf] at U;rw[k 0 (by decide), k 1 (by decide), k 2 (by decide), k 3 (by decide), k 4 (by decide), k 5 (by decide), k 6 (by decide), k 7 (by decide), k 8 (by decide), k 9 (by decide), k 10 (by decide), k 11 (by decide)] at U;exact U
          have hwu : WF γ u := (zV _ _).1 f5 u (List.mem_append_right _ (by simp));have hwd : WF γ d := (zV _ _).1 f5 d (List.mem_append_right _ (by simp))
          have q70 : zc γ (.sym 70) = .string s1 := by
            have : γ 70 = some (Unk.place 70) := hle 70 _ (Qu (by decide));show qe ((γ 70).getD (0, 0, 0)) = _;rw[this, getD_some];exact jV s1
          have Z : zc γ (.sym 71) = .string s2 := by
            have : γ 71 = some (Unk.place 71) := hle 71 _ (Qu (by decide));show qe ((γ 71).getD (0, 0, 0)) = _;rw[this, getD_some];exact jV s2
          have lu := zbg k1 C g3 hwu q70;have ld := zbg k2 C g4 hwd Z
          have cut : ∀(y : Nat × Nat × Nat) (n z : Nat) (e : Bool), γ n = some y -> ∃c, c <= y.2.2 /\ zc γ (.slice n 0 z z e) = .slice (some ⟨y.1, y.2.1, none⟩) z (z + c) := by
            intro y n z e hy
            cases e with
            | true => exact⟨0, zero_le _, by simp[zc, Inj.addr, Inj.blk, Inj.sh, hy]⟩
            | false => exact⟨y.2.2, Nat.le_refl _, by simp[zc, Inj.addr, Inj.blk, Inj.sh, Inj.ext, hy]⟩
          obtain⟨X, cs1, cs2⟩ := cut xs sb (es.length + 1) e1 cs;obtain⟨ch', ch1, ch2⟩ := cut O hb (es.length + 2) e2 ch;refine⟨K, G, N, .pointer (some ⟨P.1, P.2.1, none⟩), ?_, fun h => absurd hn h, fun _ => ⟨zc γ u, zc γ d, ⟨⟨P, (O.1, O.2.1, ch'), .slice (some ⟨xs.1, xs.2.1, none⟩) (es.length + 1) (es.length + 1 + X), rfl, ?_, zw.less f4' ch1, ⟨fun h => ?_, fun _ => ⟨(xs.1, xs.2.1, X), ?_, zw.less f6' cs1⟩⟩, I _ _ lo1 cb, (show B O.1 from I _ _ lo2 ch), fun p n m hp => by cases hp; exact I _ _ lo3 cs⟩, fun e he => ?_⟩⟩⟩
          · rw[hn, zc]
            simp only[zf];rw[show zc γ (.ptr b 0) = .pointer (some ⟨P.1, P.2.1, none⟩) by simp[zc, Inj.addr, Inj.blk, Inj.sh, cb]];rfl
          · simp only[zf] at f2
            rw[show Nat.succ es.length = es.length + 1 from rfl, show Nat.add es.length 2 = es.length + 2 from rfl, cs2, ch2] at f2;rw[length_append];exact f2
          · exact absurd (congrArg List.length h) (by simp)
          · rw[length_append]; rfl
          · rcases List.mem_append.1 he with he|he
            · exact K.lists i.qD.lists e he
            · rw[List.mem_singleton] at he
              subst he;exact⟨lu, ld⟩
    · have hn : qZ (es.map (·.1)) R = R.err := by
        unfold qZ;rw[if_neg hN, if_pos he]
      have hv : zc (KP.BN 6000 (val R s1 s2 es)) (.sym 2060) = .int .i64 (R.err : Nat) := KP.jO (by decide) (by decide) (show val R s1 s2 es 2060 = _ from rfl) rfl;refine(zbU (F := zP (ZI es.length 3) [V4 (cnt R.up) (cnt R.down) (.sym 2060), .eq 1 (.sym 2060) (zX 0) false]) (A := []) (ok := zaO es.length (.sym 2060)) i h2 (fun g t => ?_) Q (fun v H h => (YC h).2) r2).mono fun e w2 hx => ?_
      · rcases zR t with t|t
        · exact r g t
        · simp only[mem_cons, mem_nil_iff, or_false] at t
          rcases t with rfl|rfl
          · exact V3 hR h2 (Q7 (by decide) (by decide)) hv
          · refine JJ (Q7 (by decide) (by decide)) trivial hv (show zc _ (zX 0) = .int .i64 ((0 : Nat) : Int) from rfl) ?_
            symm;simpa using fun h => he (by omega)
      · obtain⟨K, G, N, γ, v, H', rfl, _, hle, _, D, _⟩ := hx
        rw[(YC D).1];exact bad R.err hn he (γ := γ) (a := .sym 2060) (by rw[(WF.mono hle _ (Q7 (by decide) (by decide))).2, hv]) K G N rfl
end
end AP
end
section
open Go.Proofs
namespace AR
open TR
open AP (nf of yX kC ZI ways bars Kd kept jY yP Two unkA val yY yZ Q7 ZC QI Vv JE yE qT ZH Ve Kj Uw yk UO WY zbC)
theorem zjU{k:Nat}(d:k<=8)(a b:Option ByteArray):(∀c,c<3->V2 k c (cnt a) (cnt b)=true)/\(∀c,c<4->zvY k c (cnt a) (cnt b)=true)/\zdB k (cnt a) (cnt b)=true/\JL k (cnt a) (cnt b)=true:=by
 have h:=yk (UO (p:=fun k=>Yr k=true) zDd zDc zDb zDa zC9 zC8 zC7 zC6 zC5 d) a b;simp only[zk,Bool.and_eq_true]at h;obtain⟨e,h1,h2,h3⟩:=h;refine⟨fun c hc=>jh e c ?_,fun c hc=>jh h1 c ?_,h2,h3⟩
 .have:c=0\/c=1\/c=2:=by omega
  rcases this with rfl|rfl|rfl<;>decide
 .have:c=0\/c=1\/c=2\/c=3:=by omega
  rcases this with rfl|rfl|rfl|rfl<;>decide
theorem zjT{k:Nat}(e:k<=8)(a b:Option ByteArray){j i:Nat}(g:j<k)(hi:i<2){f:List Fact}(l:kY i (AP.bars j)=some f):zdC k (cnt a) (cnt b) j f=true:=by
 have h:=yk (UO (p:=fun k=>Yq k=true) zC4 zC3 zC2 zC1 zC0 zCZ zCY zCX zCW e) a b;have h1:=jh h j (List.mem_range.2 g)
 have c:i∈[0,1]:=by
  have d:i=0\/i=1:=by omega
  rcases d with rfl|rfl
  .exact mem_cons_self
  .exact mem_cons_of_mem _ mem_cons_self
 have h2:=jh h1 i c;rw[l,zd]at h2;exact h2
theorem jb{k:Nat}{p:Nat×zo}(hp:p∈rows k):k≠0/\p=(6000,zo.cells 86 (Nat.mul 14 k) (Tr.ofList (kC k))):=by
 cases k with
 | zero=>cases hp
 | succ k=>exact⟨by omega,List.mem_singleton.1 hp⟩
theorem zcQ{k:Nat}(a:k≠0):(6000,zo.cells 86 (Nat.mul 14 k) (Tr.ofList (kC k)))∈rows k:=by
 cases k with
 | zero=>exact absurd rfl a
 | succ k=>exact List.mem_singleton.2 rfl
theorem zCl(F:List Fact)(A:List (List (List Fact)))(p q:Nat)[Unk]:FitA (E F A p q):=by
 have:Fit (Zb prog AR.specs F (qV p q)):=yT KP.jW KP.ZJ (fun p hp=>by
  have hp:p∈[((68:FuncId),Spec.fact),((69:FuncId),Spec.fact),((70:FuncId),Spec.fact)]:=hp;simp only[mem_cons,mem_nil_iff,or_false]at hp
  rcases hp with rfl|rfl|rfl<;>trivial)
 exact AP.FitA.alts this.toFitA 26 62 A
theorem zmR(n m:Option ByteArray):zD (qV (cnt n) (cnt m))=true:=by
 cases n<;>cases m
 .exact(by kernel_rfl:zD (qV 0 0)=true)
 .exact(by kernel_rfl:zD (qV 0 1)=true)
 .exact(by kernel_rfl:zD (qV 1 0)=true)
 .exact(by kernel_rfl:zD (qV 1 1)=true)
structure In(w:World)(wv:Value)(es:List Ent)(R:zy)(v1 v2:Value):Prop where
 rec_:R.Ok
 few:es.length<=8
 want:yC w 86 wv es
 lists:jo w es
 up:AtS w v1 R.up
 down:AtS w v2 R.down
section
variable{R:zy}{s1 s2:ByteArray}{es:List Ent}{v1 v2:Value}{x1 x2:Nat×Nat×Nat}{w:World}{wv:Value}
theorem back(hR:R.Ok)(h2:Two w R v1 v2 x1 x2 s1 s2){w':World}(a:@zZ (unkA x1 x2 s1 s2 es) prog (qV (cnt R.up) (cnt R.down)) w'):AtS w' v1 R.up/\AtS w' v2 R.down:=by
 have:=QI (es:=es) hR h2 (T:=[]) (w:=w') (by rw[zT,append_nil,show AP.qV (cnt R.up) (cnt R.down)=qV (cnt R.up) (cnt R.down) from zT _ _];exact a);exact⟨this.1,this.2.1⟩
theorem Kx{F:List Fact}{A:List (List (List Fact))}{v:zb}(i:In w wv es R v1 v2)(h2:Two w R v1 v2 x1 x2 s1 s2)
  (hf:letI:=unkA x1 x2 s1 s2 es;∀f∈F,zq prog (qV (cnt R.up) (cnt R.down)) (KP.BN 6000 (val R s1 s2 es)) f)
  (hA:letI:=unkA x1 x2 s1 s2 es;∀(i:Nat) l,A[i]?=some l->∃alt∈l,∀f∈alt,zq prog (qV (cnt R.up) (cnt R.down)) (KP.BN 6000 (val R s1 s2 es)) f)
  {n:Nat} (hv:letI:=unkA x1 x2 s1 s2 es;WF (KP.BN 6000 (val R s1 s2 es)) v/\zc (KP.BN 6000 (val R s1 s2 es)) v = .int .i64 (n:Nat)) (hchk:run F A es.length (cnt R.up) (cnt R.down) v=true) :
  Calls prog 26 #[wv,.agg (R.l1++v1::v2::R.l2).toArray] w fun e w2=>qy w w2/\Vu wv w w2/\yC w2 86 wv es/\e = .returned (.int .i64 (n:Nat)):=by
 letI:=unkA x1 x2 s1 s2 es
 obtain⟨rx,q1,q2⟩:∃rx:Nat×Nat×Nat,(es=[]->wv = .slice none 0 0/\rx=(w.heap.size,0,0))/\(es≠[]->wv = .slice (some ⟨rx.1,rx.2.1,none⟩) es.length (es.length+rx.2.2)/\zw prog w rx 86 (cellsOf es)):=by
  by_cases he:es=[]
  .exact⟨(w.heap.size,0,0),fun _=>⟨i.want.1 he,rfl⟩,fun h=>absurd he h⟩
  .obtain⟨y,h1,h2⟩:=i.want.2 he;exact⟨y,fun h=>absurd h he,fun _=>⟨h1,h2⟩⟩
 have K:es.length≠0->es≠[]:=fun h e=>h (by rw[e];rfl);unfold run at hchk;let H:=E F A (cnt R.up) (cnt R.down)
 cases P:qj H (jg H 1000000) 26 [arg es.length,yX (cnt R.up) (cnt R.down)] (qR H 6001 (rows es.length)) with
 | none=>rw[show qj (E F A (cnt R.up) (cnt R.down)) (jg (E F A (cnt R.up) (cnt R.down)) 1000000) 26 [arg es.length,yX (cnt R.up) (cnt R.down)] (qR (E F A (cnt R.up) (cnt R.down)) 6001 (rows es.length))=none from P]at hchk;cases hchk
 | some z=>
  obtain⟨u,H'⟩:=z;rw[show qj (E F A (cnt R.up) (cnt R.down)) (jg (E F A (cnt R.up) (cnt R.down)) 1000000) 26 [arg es.length,yX (cnt R.up) (cnt R.down)] (qR (E F A (cnt R.up) (cnt R.down)) 6001 (rows es.length))=some (u,H') from P,zd,zk,Bool.and_eq_true]at hchk;have hu:=zM _ _ hchk.1;subst hu
  have C:∀p∈rows es.length,H'.blk.get p.1=some p.2:=by
   intro p hp;have:=KP.ZD (α:=Nat×zo) (p:=fun q=>zh (H'.blk.get q.1) false fun b=>Zh b q.2) (l:=rows es.length) hchk.2 p hp
   cases hg:H'.blk.get p.1 with
   | none=>rw[hg]at this;cases this
   | some b=>
    rw[hg,zd]at this;rw[yy this]
  let σ:=KP.JU 6000 (val R s1 s2 es)
  let pl:Nat->Nat×Nat×Nat:=fun _=>rx
  let β:=qB σ 6000 1 pl
  have hle:(KP.BN 6000 (val R s1 s2 es)).le β:=jT (by decide) KP.qU;have Y:β 6000=some rx:=qv (by decide) (by decide);obtain⟨Z,a2⟩:=JE (R:=R) (x1:=x1) (x2:=x2) (s1:=s1) (s2:=s2) i.lists i.few;obtain⟨a5,a6⟩:=ZC (es:=es) i.rec_ h2
  have Q:∀p∈rows es.length,6000<=p.1/\p.1<6000+1:=by
   intro p hp;obtain⟨_,rfl⟩:=jb hp;exact⟨by show 6000<=6000;omega,by show 6000<6001;omega⟩
  have r:WF β (arg es.length)/\zc β (arg es.length)=wv:=by
   by_cases he:es=[]
   .rw[(q1 he).1,he];exact⟨trivial,rfl⟩
   .rw[(q2 he).1]
    cases U:es.length with
    | zero=>exact absurd (eq_nil_of_length_eq_zero U) he
    | succ n=>
     refine⟨⟨by rw[Y];rfl,Nat.le_refl _⟩,?_⟩;show zc β (.slice 6000 0 (n+1) (n+1) false)=_;simp[zc,Inj.addr,Inj.blk,Inj.sh,Inj.ext,Y]
  have M:∀p∈rows es.length,zH prog β p.2 (pl p.1) w:=by
   intro p hp;obtain⟨hn,rfl⟩:=jb hp;exact zw.blk (l:=kC es.length) (yE _) (WFs.mono hle _ Z).1 (by rw[(WFs.mono hle _ Z).2,a2];exact(q2 (K hn)).2)
  have L:∀p∈rows es.length,∀q∈rows es.length,(pl p.1).1=(pl q.1).1->p.1=q.1:=by
   intro p hp q hq _;obtain⟨_,rfl⟩:=jb hp;obtain⟨_,rfl⟩:=jb hq;rfl
  have I:∀p∈rows es.length,∀t∈qV (cnt R.up) (cnt R.down),(Unk.place t.1).1≠(pl p.1).1:=by
   intro p hp t k e;obtain⟨hn,rfl⟩:=jb hp;obtain⟨arr,fz,g1,_⟩:=(q2 (K hn)).2;have e:(Unk.place t.1).1=rx.1:=e;rw[<- e]at g1
   have key:∃(d:Array Value) (g:Nat×Nat),w.heap[(Unk.place t.1).1]?=some (Obj.cells d 3 g):=by
    unfold qV at k;rcases List.mem_append.1 k with k|k
    .have hb:=QK h2.a (β:=fun id=>some (Unk.place id)) (fun _ _=>rfl) (b:=60) (q:=70) (by decide) rfl rfl t k
     have:t=(60,.ints 3 (.sym 70)):=by
      cases J:R.up with
      | none=>rw[J]at k;cases k
      | some o=>rw[J]at k;exact List.mem_singleton.1 k
     subst this;obtain⟨d,g,x,_⟩:=hb;exact⟨d,g,x⟩
    .have hb:=QK h2.b (β:=fun id=>some (Unk.place id)) (fun _ _=>rfl) (b:=61) (q:=71) (by decide) rfl rfl t k
     have:t=(61,.ints 3 (.sym 71)):=by
      cases J:R.down with
      | none=>rw[J]at k;cases k
      | some o=>rw[J]at k;exact List.mem_singleton.1 k
     subst this;obtain⟨d,g,x,_⟩:=hb;exact⟨d,g,x⟩
   obtain⟨d,g,X⟩:=key;rw[X]at g1;simp only[Option.some.injEq,Obj.cells.injEq]at g1;exact absurd (show(3:Nat)=86 from g1.2.1) (by decide)
  have D:Yx H (zJ σ):=by
   intro fn q hq j l hl;have hq:(Tr.set .nil 26 ((62:Nat),A)).get fn=some q:=hq;rw[Tr.zK]at hq;split at hq
   .cases hq;exact hA j l hl
   .rw[Tr.get_nil]at hq;cases hq
  have hfacts:zC H (zJ σ):=hf
  have B:zZ prog (qV (cnt R.up) (cnt R.down)) w:=by
   have:=Vv (es:=es) i.rec_ h2 (T:=[]) (@qz (unkA x1 x2 s1 s2 es) _ _);rw[zT,append_nil,show AP.qV (cnt R.up) (cnt R.down)=qV (cnt R.up) (cnt R.down) from zT _ _]at this;exact this
  have:=ZG (E:=H) (σ:=σ) (N:=6000) (m:=1) (pl:=pl) (zCl F A _ _) (by decide) KP.qU hfacts D (zmR _ _) B Q M L I P ⟨r.1,(WF.mono hle _ a5).1,trivial⟩
  have ea:(zf β [arg es.length,yX (cnt R.up) (cnt R.down)]).toArray = #[wv,.agg (R.l1++v1::v2::R.l2).toArray]:=by
   rw[zf,zf,zf,(WF.mono hle _ a5).2,a6,r.2]
  rw[ea]at this;refine this.mono fun e w2 hx=>?_;obtain⟨G,γ,rfl,g1,g2,X,_⟩:=hx
  have lowγ:(KP.BN 6000 (val R s1 s2 es)).le γ:=fun id y O=>by
   have hid:id<6000:=by
    rcases Nat.lt_or_ge id 6000 with h|h
    .exact h
    .rw[KP.YK (by decide) id h]at O;cases O
   rw[g2 id (by omega)];exact hle id y O
  have c0:γ 6000=some rx:=by rw[g2 6000 (by decide)];exact Y
  refine⟨⟨fun c arr t fz hc n1 n2 n3 n4=>G.frame c (Array.getElem?_eq_some_iff.1 hc).1 fun j j1 j2 e=>?_,G.size,G.tape,G.os,G.output⟩,fun c hc hn=>G.frame c hc fun j j1 j2 e=>?_,⟨i.want.1,fun he=>?_⟩,?_⟩
  .have e:rx.1=c:=e;by_cases he:es=[]
   .rw[(q1 he).2]at e;have:=(Array.getElem?_eq_some_iff.1 hc).1;have e:w.heap.size=c:=e;omega
   .obtain⟨d,g,x,_⟩:=(q2 he).2;rw[e,hc]at x;simp only[Option.some.injEq,Obj.cells.injEq]at x;exact n4 x.2.1
  .have e:rx.1=c:=e;by_cases he:es=[]
   .rw[(q1 he).2]at e;have e:w.heap.size=c:=e;omega
   .exact hn _ _ _ (q2 he).1 e
  .have hn:es.length≠0:=fun h=>he (eq_nil_of_length_eq_zero h);have:=zw.of (l:=kC es.length) (yE _) (X.blk 6000 _ rx (C _ (zcQ hn)) c0);rw[(WFs.mono lowγ _ Z).2,a2]at this;exact⟨rx,(q2 he).1,this⟩
  .rw[(WF.mono lowγ _ hv.1).2,hv.2]
end
end AR
end
section
open Go.Proofs
namespace AR
open TR
open AP (nf of yX kC ZI ways bars Kd kept jY yP Two unkA val yY yZ Q7 ZC qT ZH Ve Kj Uw WY zbC)
section
variable{R:zy}{s1 s2:ByteArray}{es:List Ent}{v1 v2:Value}{x1 x2:Nat×Nat×Nat}{w:World}{wv:Value}
noncomputable def stC(R:zy):Nat:=if isN R.tenant=false then 0 else if R.session<1 then 1 else if isN R.action=false then 2 else if isP R.path=false then 3 else 4
theorem zwf(R:zy):(stC R<4->R.err=zsY (stC R))/\(stC R=4->R.err=R.Zz)/\stC R<=4:=by
 unfold stC zy.err;split
 .exact⟨fun _=>rfl,fun h=>(by cases h),by decide⟩
 .split
  .exact⟨fun _=>rfl,fun h=>(by cases h),by decide⟩
  .split
   .exact⟨fun _=>rfl,fun h=>(by cases h),by decide⟩
   .split
    .exact⟨fun _=>rfl,fun h=>(by cases h),by decide⟩
    .exact⟨fun h=>absurd h (by decide),fun _=>rfl,by decide⟩
theorem zlW[Unk]{tabs:List (Nat×zo)}(hR:R.Ok):∀f∈zfR (stC R),zq prog tabs (KP.BN 6000 (val R s1 s2 es)) f:=by
 have w':∀i,i<12->WF (KP.BN 6000 (val R s1 s2 es)) (nf i):=fun i hi=>yY hi;have v:∀i,i<12->zc (KP.BN 6000 (val R s1 s2 es)) (nf i)=R.at i:=fun i hi=>yZ hi;have d:∀b:Bool,isN R.tenant=b->zq prog tabs (KP.BN 6000 (val R s1 s2 es)) (.call 68 [nf 2] (qf b)):=fun b hb=>Zo (w' 2 (by decide)) (v 2 (by decide)) (fun w=>hb ▸ zqA hR.tenant w);have e:∀b:Bool,b=decide (R.session<((1:Nat):Int))->zq prog tabs (KP.BN 6000 (val R s1 s2 es)) (.bin .lss (nf 3) (zX 1) (qf b)):=fun b hb=>ZQ (w' 3 (by decide)) (v 3 (by decide)) hb;have g:∀b:Bool,isN R.action=b->zq prog tabs (KP.BN 6000 (val R s1 s2 es)) (.call 68 [nf 4] (qf b)):=fun b hb=>Zo (w' 4 (by decide)) (v 4 (by decide)) (fun w=>hb ▸ zqA hR.action w);have k:∀b:Bool,isP R.path=b->zq prog tabs (KP.BN 6000 (val R s1 s2 es)) (.call 69 [nf 5] (qf b)):=fun b hb=>Zo (w' 5 (by decide)) (v 5 (by decide)) (fun w=>hb ▸ zwI hR.path w);have T:∀ {b:Bool},¬b=false->b=true:=fun h=>by simpa using h
 intro f a;unfold stC at a;split at a
 .rename_i c;have a:f∈[Fact.call 68 [nf 2] (qf false)]:=a;rw[List.mem_singleton]at a;subst a;exact d _ c
 .rename_i c;split at a
  .rename_i h1;have a:f∈[Fact.call 68 [nf 2] (qf true),.bin .lss (nf 3) (zX 1) (qf true)]:=a;simp only[mem_cons,mem_nil_iff,or_false]at a;rcases a with rfl|rfl
   .exact d _ (T c)
   .exact e _ (by symm;rw[decide_eq_true_eq];exact h1)
  .rename_i h1;have j:false=decide (R.session<((1:Nat):Int)):=by symm;rw[decide_eq_false_iff_not];exact h1
   split at a
   .rename_i h2;have a:f∈[Fact.call 68 [nf 2] (qf true),.bin .lss (nf 3) (zX 1) (qf false),.call 68 [nf 4] (qf false)]:=a;simp only[mem_cons,mem_nil_iff,or_false]at a;rcases a with rfl|rfl|rfl
    .exact d _ (T c)
    .exact e _ j
    .exact g _ h2
   .rename_i h2;split at a
    .rename_i h3;have a:f∈[Fact.call 68 [nf 2] (qf true),.bin .lss (nf 3) (zX 1) (qf false),.call 68 [nf 4] (qf true),.call 69 [nf 5] (qf false)]:=a;simp only[mem_cons,mem_nil_iff,or_false]at a;rcases a with rfl|rfl|rfl|rfl
     .exact d _ (T c)
     .exact e _ j
     .exact g _ (T h2)
     .exact k _ h3
    .rename_i h3;have a:f∈[Fact.call 68 [nf 2] (qf true),.bin .lss (nf 3) (zX 1) (qf false),.call 68 [nf 4] (qf true),.call 69 [nf 5] (qf true)]:=a;simp only[mem_cons,mem_nil_iff,or_false]at a;rcases a with rfl|rfl|rfl|rfl
     .exact d _ (T c)
     .exact e _ j
     .exact g _ (T h2)
     .exact k _ (T h3)
theorem zdD{r:zb}(hR:R.Ok)(h2:Two w R v1 v2 x1 x2 s1 s2):letI:=unkA x1 x2 s1 s2 es
  WF (KP.BN 6000 (val R s1 s2 es)) r->zc (KP.BN 6000 (val R s1 s2 es)) r = .int .i64 (R.Zz:Nat) ->
  zq prog (qV (cnt R.up) (cnt R.down)) (KP.BN 6000 (val R s1 s2 es)) (QY (cnt R.up) (cnt R.down) r):=by
 letI:=unkA x1 x2 s1 s2 es;intro hw b;obtain⟨q1,q2⟩:=ZC (es:=es) hR h2;refine⟨⟨q1,trivial⟩,hw,fun w a=>?_⟩;obtain⟨f,d⟩:=back (es:=es) hR h2 a
 have c:(zf (KP.BN 6000 (val R s1 s2 es)) [yX (cnt R.up) (cnt R.down)]).toArray = #[.agg (R.l1++v1::v2::R.l2).toArray]:=by
  rw[zf,q2];rfl
 rw[c,b];exact(CH.zlb hR f d).mono fun e w2 hx=>⟨hx.2,hx.1⟩
theorem YY(j:Nat)(c:j<=8)(hb:∀i,i<j->¬TR.bars (qT es i) R)[Unk]{tabs:List (Nat×zo)} :
  ∀(i:Nat) l,(Kd j)[i]?=some l->∃alt∈l,∀f∈alt,zq prog tabs (KP.BN 6000 (val R s1 s2 es)) f:=by
 intro i l hl;unfold Kd at hl;rw[List.getElem?_map]at hl;obtain⟨a,b,rfl⟩:=Option.map_eq_some_iff.1 hl;have hi:i<j:=by have:=(List.getElem?_eq_some_iff.1 b).1;simpa using this
 rw[List.getElem?_range hi]at b;cases b;exact Kj (by omega) (hb i hi)
theorem zpK(i:In w wv es R v1 v2):Calls prog 26 #[wv,.agg (R.l1++v1::v2::R.l2).toArray] w fun e w2=>qy w w2/\Vu wv w w2/\yC w2 86 wv es/\e = .returned (.int .i64 (qZ (es.map (·.1)) R:Nat)):=by
 obtain⟨x1,s1,O⟩:=J2 i.up;obtain⟨x2,s2,k2⟩:=J2 i.down;have h2:Two w R v1 v2 x1 x2 s1 s2:=⟨O,k2⟩
 have hR:=i.rec_;letI:=unkA x1 x2 s1 s2 es;obtain⟨K,J,I,H⟩:=zjU i.few R.up R.down;have b:=ZH (R:=R) (s1:=s1) (s2:=s2) (es:=es) (tabs:=qV (cnt R.up) (cnt R.down)) hR es.length
 have k:∀(i:Nat) (l:List (List Fact)),([]:List (List (List Fact)))[i]?=some l->∃alt∈l,∀f∈alt,zq prog (qV (cnt R.up) (cnt R.down)) (KP.BN 6000 (val R s1 s2 es)) f:=by
  intro i l hl;cases hl
 by_cases hc:Ve es.length R<3
 .have hn:qZ (es.map (·.1)) R=2:=by
   unfold qZ;rw[length_map,if_pos];unfold Ve at hc;split at hc
   .rename_i h;exact .inl h
   .split at hc
    .rename_i h;exact .inr (.inl h)
    .split at hc
     .rename_i h;exact .inr (.inr h)
     .omega
  rw[hn];exact Kx (F:=ZI es.length (Ve es.length R)) (A:=[]) (v:=zX 2) i h2 b k ⟨trivial,rfl⟩ (K _ hc)
 .have c:Ve es.length R=3:=by
   unfold Ve at hc ⊢;split at hc
   .omega
   .split at hc
    .omega
    .split at hc
     .omega
     .rename_i h1 h2 h3;rw[if_neg h1,if_neg h2,if_neg h3]
  rw[c]at b
  have hN:¬(R.number≠((es.map (·.1)).length+1:Nat)\/R.version<0\/30000<R.day):=by
   rw[length_map];unfold Ve at c;split at c
   .omega
   .split at c
    .omega
    .split at c
     .omega
     .rename_i h1 h2 h3;rintro(h|h|h)
      .exact h1 h
      .exact h2 h
      .exact h3 h
  obtain⟨G,P,T⟩:=zwf R;by_cases hs:stC R<4
  .have z:R.err≠0:=by
    rw[G hs];have:stC R=0\/stC R=1\/stC R=2\/stC R=3:=by omega
    rcases this with h|h|h|h<;>rw[h]<;>decide
   have hn:qZ (es.map (·.1)) R=zsY (stC R):=by
    unfold qZ;rw[if_neg hN,if_pos z,G hs]
   rw[hn]
   exact Kx (F:=zP (ZI es.length 3) (zfR (stC R))) (A:=[]) (v:=zX (zsY (stC R))) i h2 (fun g a=>by
    rcases zR a with a|a
    .exact b g a
    .exact zlW hR g a) k ⟨trivial,rfl⟩ (J _ hs)
  .have o:stC R=4:=by omega
   have d:=zlW (R:=R) (s1:=s1) (s2:=s2) (es:=es) (tabs:=qV (cnt R.up) (cnt R.down)) hR;rw[o]at d;have t:=P o;by_cases he:R.err=0
   .have u:=zdD (es:=es) (r:=zX 0) hR h2 trivial (by rw[<- t,he];rfl);obtain⟨j,Q,D,C⟩:=YO (fun j=>TR.bars (qT es j) R) es.length;by_cases y:j<es.length
    .have hn:qZ (es.map (·.1)) R=7:=by
      unfold qZ;rw[if_neg hN,if_neg (fun h=>h he),if_pos ⟨_,WY y,C y⟩]
     rw[hn];obtain⟨m,N,f,M,L⟩:=Uw (R:=R) (s1:=s1) (s2:=s2) (es:=es) (tabs:=qV (cnt R.up) (cnt R.down)) (by have:=i.few;omega) (C y)
     exact Kx (F:=zP (ZI es.length 3) (zP (zfR 4) (QY (cnt R.up) (cnt R.down) (zX 0)::f))) (A:=Kd j) (v:=zX 7) i h2 (fun g a=>by
      rcases zR a with a|a
      .exact b g a
      rcases zR a with a|a
      .exact d g a
      rcases List.mem_cons.1 a with rfl|a
      .exact u
      .exact L g a) (YY j (by have:=i.few;omega) D) ⟨trivial,rfl⟩ (zjT i.few R.up R.down y N M)
    .have p:∀x∈es.map (·.1),¬TR.bars x R:=by
      intro x hx;obtain⟨n,B,rfl⟩:=zbC hx;exact D n (by omega)
     have hn:qZ (es.map (·.1)) R=0:=by
      unfold qZ;rw[if_neg hN,if_neg (fun h=>h he),if_neg (fun h=>by obtain⟨x,hx,hb⟩:=h;exact p x hx hb)]
     rw[hn]
     exact Kx (F:=zP (ZI es.length 3) (zP (zfR 4) [QY (cnt R.up) (cnt R.down) (zX 0)])) (A:=Kd es.length) (v:=zX 0) i h2 (fun g a=>by
      rcases zR a with a|a
      .exact b g a
      rcases zR a with a|a
      .exact d g a
      rw[List.mem_singleton]at a;subst a
      exact u) (YY es.length i.few (fun n B=>p _ (WY B))) ⟨trivial,rfl⟩ H
   .have hn:qZ (es.map (·.1)) R=R.err:=by
     unfold qZ;rw[if_neg hN,if_pos he]
    have hv:zc (KP.BN 6000 (val R s1 s2 es)) (.sym 2060) = .int .i64 (R.err:Nat):=KP.jO (by decide) (by decide) (show val R s1 s2 es 2060=_ from rfl) rfl;rw[hn]
    exact Kx (F:=zP (ZI es.length 3) (zP (zfR 4) [QY (cnt R.up) (cnt R.down) (.sym 2060),.eq 1 (.sym 2060) (zX 0) false])) (A:=[]) (v:=.sym 2060) i h2 (fun g a=>by
     rcases zR a with a|a
     .exact b g a
     rcases zR a with a|a
     .exact d g a
     simp only[mem_cons,mem_nil_iff,or_false]at a;rcases a with rfl|rfl
     .exact zdD (es:=es) hR h2 (Q7 (by decide) (by decide)) (by rw[hv,t])
     .refine JJ (Q7 (by decide) (by decide)) trivial hv (show zc _ (zX 0) = .int .i64 ((0:Nat):Int) from rfl) ?_;symm
      simpa using fun h=>he (by omega)) k ⟨Q7 (by decide) (by decide),hv⟩ I
end
end AR
end
section
open Go.Proofs
namespace KT
open KS (Wn dg Good)
theorem zu1{m:Nat}(hm:16<=m)(hm2:m<88):zow m=true:=by
 have b:∀(l:List Nat),zbh l=true->∀m∈l,zow m=true:=fun l h m hm=>KP.ZD (p:=zow) (l:=l) h m hm;have key:∀a,zbh ((List.range 12).map fun k=>Nat.add a k)=true->a<=m->m<a+12->zow m=true:=fun a h h1 h2=>b _ h m (List.mem_map.2 ⟨m-a,List.mem_range.2 (by omega),by show a+(m-a)=m;omega⟩);rcases Nat.lt_or_ge m 28 with h|h
 .exact key 16 zBT hm (by omega)
 rcases Nat.lt_or_ge m 40 with h|h
 .exact key 28 zBS (by omega) (by omega)
 rcases Nat.lt_or_ge m 52 with h|h
 .exact key 40 zBR (by omega) (by omega)
 rcases Nat.lt_or_ge m 64 with h|h
 .exact key 52 zBQ (by omega) (by omega)
 rcases Nat.lt_or_ge m 76 with h|h
 .exact key 64 zBP (by omega) (by omega)
 .exact key 76 zBO (by omega) (by omega)
theorem zBu{m:Nat}(hm:16<=m)(hm2:m<88){h e:Nat->Nat}(hh:∀i,h i<256)(he:∀i,e i<256)
  {w:World}{px hx ex:Nat×Nat×Nat} (hp:zw prog w px 51 [.slice (some ⟨hx.1,hx.2.1,none⟩) 32 32,.slice (some ⟨ex.1,ex.2.1,none⟩) m (m+ex.2.2)]) (hrh:zw prog w hx 28 (zF 32 h)) (hre:zw prog w ex 5 (zF m e))
  (d1:px.1≠hx.1) (d2:px.1≠ex.1) (d3:hx.1≠ex.1) :
  Calls prog 27 #[.string (str JA),.slice (some ⟨px.1,px.2.1,none⟩) 2 2] w fun o w2=>o = .returned (.agg (zF 32 (J7 m h e)).toArray) /\
   (∀k,k<w.heap.size->k≠px.1->k≠hx.1->k≠ex.1->w2.heap[k]?=w.heap[k]?)/\w.heap.size<=w2.heap.size/\w2.tape=w.tape/\w2.os=w.os/\w2.output=w.output/\zw prog w2 hx 28 (zF 32 h):=by
 letI:=KP.unkK;have a:=zu1 hm hm2;have j:=zBv hm hm2 hh he;unfold zow at a;let g:=E 71 (Nat.add 41 m) (yF m) []
 cases x:qj g (jg g 1000000) 27 [.str JA,.slice 6000 0 2 2 true] (qR g 6003 (rows 28 m)) with
 | none=>rw[show qj (E 71 (Nat.add 41 m) (yF m) []) (jg (E 71 (Nat.add 41 m) (yF m) []) 1000000) 27 [.str JA,.slice 6000 0 2 2 true] (qR (E 71 (Nat.add 41 m) (yF m) []) 6003 (rows 28 m))=none from x]at a;cases a
 | some p=>
  obtain⟨u,H'⟩:=p;rw[show qj (E 71 (Nat.add 41 m) (yF m) []) (jg (E 71 (Nat.add 41 m) (yF m) []) 1000000) 27 [.str JA,.slice 6000 0 2 2 true] (qR (E 71 (Nat.add 41 m) (yF m) []) 6003 (rows 28 m))=some (u,H') from x,zd,zk,Bool.and_eq_true]at a;have Q:u = .agg Xr:=zM _ _ a.1;subst Q
  have n:H'.blk.get 6001=some (.cells 28 32 (Tr.ofList YM)):=by
   cases G:H'.blk.get 6001 with
   | none=>have:=a.2;rw[G]at this;cases this
   | some b=>have:=a.2;rw[G,zd]at this;rw[yy this]
  let val:=Jt h e (dg (41+m) (mb m h e))
  let σ:=KP.JU 6000 val
  let pl:Nat->Nat×Nat×Nat:=fun id=>if id=6000 then px else if id=6001 then hx else ex
  let β:=qB σ 6000 3 pl
  have hle:(KP.BN 6000 val).le β:=jT (by decide) KP.qU;have J:β 6000=some px:=qv (by decide) (by decide);have A:β 6001=some hx:=qv (by decide) (by decide);have I:β 6002=some ex:=qv (by decide) (by decide);obtain⟨L,a2⟩:=zkX (h:=h) (e:=e) (D:=dg (41+m) (mb m h e)) (m:=m) (by omega);obtain⟨B,K⟩:=Zn (h:=h) (e:=e) (D:=dg (41+m) (mb m h e));obtain⟨a5,Z⟩:=Wm (h:=h) (e:=e) (D:=dg (41+m) (mb m h e))
  have t:FitA g:=(yT KP.jW KP.ZJ (fun p hp=>by
   have hp:p∈[((82:FuncId),Spec.fact),((71:FuncId),Spec.fact)]:=hp;simp only[mem_cons,mem_nil_iff,or_false]at hp
   rcases hp with rfl|rfl<;>trivial)).toFitA
  have d:zC g (KP.BN 6000 val):=by
   intro f d;have d:f∈[zhl 71 (Nat.add 41 m) (yF m)]:=d;rw[List.mem_singleton]at d;subst d;exact j
  have z:∀p∈rows 28 m,6000<=p.1/\p.1<6000+3:=by
   intro p hp;simp only[rows,mem_cons,mem_nil_iff,or_false]at hp;rcases hp with rfl|rfl|rfl
   .exact⟨by show 6000<=6000;omega,by show 6000<6003;omega⟩
   .exact⟨by show 6000<=6001;omega,by show 6001<6003;omega⟩
   .exact⟨by show 6000<=6002;omega,by show 6002<6003;omega⟩
  have c:WFs β (yR m)/\zf β (yR m)=[.slice (some ⟨hx.1,hx.2.1,none⟩) 32 32,.slice (some ⟨ex.1,ex.2.1,none⟩) m (m+ex.2.2)]:=by
   refine⟨⟨⟨by rw[A];rfl,Nat.le_refl _⟩,⟨by rw[I];rfl,Nat.le_refl _⟩,trivial⟩,?_⟩;simp[yR,zf,zc,Inj.addr,Inj.blk,Inj.sh,Inj.ext,A,I]
  have:=ZG (E:=g) (σ:=σ) (N:=6000) (m:=3) (pl:=pl) t (by decide) KP.qU d (QG rfl) (show zD []=true from rfl) (@qz KP.unkK _ _) z (fun p hp=>by
   simp only[rows,mem_cons,mem_nil_iff,or_false]at hp;rcases hp with rfl|rfl|rfl
   .exact zw.blk (l:=yR m) rfl c.1 (by rw[c.2];exact hp)
   .exact zw.blk (l:=YM) (by unfold YM;rw[length_map,length_range]) (WFs.mono hle _ B).1 (by rw[(WFs.mono hle _ B).2,K];exact hrh)
   .exact zw.blk (l:=zdo m) (by unfold zdo;rw[length_map,length_range]) (WFs.mono hle _ L).1 (by rw[(WFs.mono hle _ L).2,a2];exact hre)) (fun p hp q hq e=>by
   simp only[rows,mem_cons,mem_nil_iff,or_false]at hp hq;rcases hp with rfl|rfl|rfl<;>rcases hq with rfl|rfl|rfl
   .rfl
   .exact absurd e d1
   .exact absurd e d2
   .exact absurd e.symm d1
   .rfl
   .exact absurd e d3
   .exact absurd e.symm d2
   .exact absurd e.symm d3
   .rfl) (fun p hp q hq=>by cases hq) x ⟨(by intro b hb;simp only[JA,mem_cons,mem_nil_iff,or_false]at hb;omega),⟨by show(β 6000).isSome=true;rw[J];rfl,Nat.le_refl _⟩,trivial⟩
  have Y:(zf β [.str JA,.slice 6000 0 2 2 true]).toArray = #[.string (str JA),.slice (some ⟨px.1,px.2.1,none⟩) 2 2]:=by
   simp[zf,zc,Inj.addr,Inj.blk,Inj.sh,J]
  rw[Y]at this;refine this.mono fun o w2 hx=>?_;obtain⟨r,C,rfl,g1,H,U,_⟩:=hx
  have hlow:(KP.BN 6000 val).le C:=fun id y v=>by
   have hid:id<6000:=by
    rcases Nat.lt_or_ge id 6000 with h|h
    .exact h
    .rw[KP.YK (by decide) id h]at v;cases v
   rw[H id (by omega)];exact hle id y v
  refine⟨?_,fun k T P O M=>r.frame k T fun i i1 i2 e=>?_,r.size,r.tape,r.os,r.output,?_⟩
  .have X:zc C (.agg Xr) = .agg (Wn (41+m) (mb m h e)).toArray:=by rw[zc,(WFs.mono hlow _ a5).2,Z];rfl
   rw[X];rfl
  .have:i=6000\/i=6001\/i=6002:=by omega
   rcases this with rfl|rfl|rfl
   .exact P e.symm
   .exact O e.symm
   .exact M e.symm
  .have:=zw.of (l:=YM) (by unfold YM;rw[length_map,length_range]) (U.blk 6001 _ _ n (by rw[H 6001 (by decide)];exact A));rwa[(WFs.mono hlow _ B).2,K]at this
end KT
end
section
open Go.Proofs
namespace RH
open TR
open AP (of ol kC val kj Q1 Q7 qT yE opq VH Qj Qi YL QX Kz Ju JI)
open KT (zF J7)
theorem runs{n:Nat}(hn:n<=8)(f:Nat->zo):run n n ((List.range (2*n)).map f)=true:=by
 have:n=0\/n=1\/n=2\/n=3\/n=4\/n=5\/n=6\/n=7\/n=8:=by omega
 rcases this with rfl|rfl|rfl|rfl|rfl|rfl|rfl|rfl|rfl
 .exact congrFun rh0 f
 .exact congrFun rh1 f
 .exact congrFun rh2 f
 .exact congrFun rh3 f
 .exact congrFun rh4 f
 .exact congrFun rh5 f
 .exact congrFun rh6 f
 .exact congrFun rh7 f
 .exact congrFun rh8 f
structure Acc(R:zy):Prop where
 ok:R.Ok
 good:EN.Good R
 day:R.day<=30000
 ver:R.version<=4
theorem Acc.plain{R:zy}(h:Acc R):R.Plain:=⟨h.ok,⟨h.good.ver,h.ver⟩,by have:=h.good.name.2.1;omega⟩
theorem zb6:∀ {bs:List zo}{t0:Nat}{p:Nat×zo},p∈kW bs t0->∃t,bs[t]?=some p.2/\p.1=rid (t0+t)
 | [],_,_,hp=>by cases hp
 | b::bs,t0,p,hp=>by
  have hp:p∈(rid t0,b)::kW bs (t0+1):=hp;rcases List.mem_cons.1 hp with rfl|hp
  .exact⟨0,rfl,rfl⟩
  .obtain⟨t,h1,h2⟩:=zb6 hp;exact⟨t+1,h1,by rw[h2,show t0+1+t=t0+(t+1) by omega]⟩
theorem zh9:∀ {bs:List zo}{t0 t:Nat}{b:zo},bs[t]?=some b->(rid (t0+t),b)∈kW bs t0
 | [],_,_,_,h=>by cases h
 | c::bs,t0,t,b,h=>by
  show _∈(rid t0,c)::kW bs (t0+1)
  cases t with
  | zero=>cases h;exact mem_cons_self
  | succ t=>
   have h:bs[t]?=some b:=h;have:=zh9 (t0:=t0+1) h;rw[show t0+1+t=t0+(t+1) by omega]at this;exact mem_cons_of_mem _ this
theorem zfP(t:Nat):rid t=if t<12 then 60+t else 76+t:=by
 unfold rid;rw[zl,zN];by_cases h:t<12
 .rw[if_pos (by simpa using h),if_pos h];rfl
 .rw[if_neg (by simpa using h),if_neg h];rfl
theorem zsW{s t:Nat}(h:rid s=rid t):s=t:=by
 rw[zfP,zfP]at h;split at h<;>split at h<;>omega
theorem zwo{t:Nat}(h:t<16):rid t<100:=by rw[zfP];split<;>omega
theorem zbc[Unk]:∀ {bs:List zo}{t0:Nat},t0+bs.length<=16->(∀b∈bs,Xy b=true)->zD (kW bs t0)=true
 | [],_,_,_=>rfl
 | b::bs,t0,h1,h2=>by
  show zn (zn (blt (rid t0) 100) (zn (Xy b) (zh ((jq (kW bs (t0+1))).get (rid t0)) true fun _=>false))) (zD (kW bs (t0+1)))=true;have hl:(b::bs).length=bs.length+1:=rfl;rw[zbc (by omega) fun c hc=>h2 c (mem_cons_of_mem _ hc),h2 b mem_cons_self];have h3:blt (rid t0) 100=true:=by rw[zN];exact decide_eq_true (zwo (by omega))
  rw[h3]
  cases a:(jq (kW bs (t0+1))).get (rid t0) with
  | none=>rfl
  | some c=>
   obtain⟨t,_,e⟩:=zb6 (kP _ _ _ a);have e:rid t0=rid (t0+1+t):=e;have:=zsW e;omega
end RH
end
noncomputable section
open Go.Proofs
namespace RH
open TR
open AP (of ol kC val kj Q1 Q7 qT yE VH Qj Qi YL QX Kz Ju JI)
open KT (zF J7)
def jD(es:List Ent)(t:Nat):Value×Option ByteArray:=if t % 2=0 then(((es[t / 2]?).getD default).2.1,((es[t / 2]?).getD default).1.up) else(((es[t / 2]?).getD default).2.2,((es[t / 2]?).getD default).1.down)
def kp(o:Option ByteArray):zo:=match o with|none=>.view .nil|some s=>.ints 3 (.str (zA s))
def zfF(es:List Ent)(k:Nat):List (Nat×zo):=kW ((List.range (2*k)).map fun t=>kp (jD es t).2) 0
def zgU(w:World)(es:List Ent)(k:Nat)(pl:Nat->Nat×Nat×Nat):Prop:=∀t,t<2*k->((jD es t).2=none->pl t=(1,0,0))/\∀s,(jD es t).2=some s->∃arr fz,zoP w s (jD es t).1 (pl t) arr fz
theorem WR{w:World}{es:List Ent}(hl:jo w es){t:Nat}(b:t<2*es.length):AtS w (jD es t).1 (jD es t).2:=by
 have a:t / 2<es.length:=by omega
 have hm:(es[t / 2]?).getD default∈es:=by rw[List.getElem?_eq_getElem a];exact List.getElem_mem a
 obtain⟨l1,l2⟩:=hl _ hm;unfold jD;split
 .exact l1
 .exact l2
theorem znF{w:World}{es:List Ent}{k:Nat}(hl:jo w es)(d:k<=es.length):∃pl,zgU w es k pl:=by
 have key:∀t,∃x:Nat×Nat×Nat,t<2*k->((jD es t).2=none->x=(1,0,0))/\∀s,(jD es t).2=some s->∃arr fz,zoP w s (jD es t).1 x arr fz:=by
  intro t;by_cases b:t<2*k
  .have h:=WR hl (t:=t) (by omega)
   cases c:(jD es t).2 with
   | none=>exact⟨(1,0,0),fun _=>⟨fun _=>rfl,fun s hs=>by cases hs⟩⟩
   | some s=>
    rw[c]at h;obtain⟨x,arr,fz,hx⟩:=h;exact⟨x,fun _=>⟨(fun h=>by cases h),fun u a=>by cases a;exact⟨arr,fz,hx⟩⟩⟩
  .exact⟨(1,0,0),fun h=>absurd h b⟩
 exact⟨fun t=>Classical.choose (key t),fun t=>Classical.choose_spec (key t)⟩
@[reducible] def unkH (es:List Ent) (pl:Nat->Nat×Nat×Nat):Unk where
 val i:=AP.opq es (i-1000)
 plain i:=AP.zeF _
 place g:=if 72<=g/\g<88 then(1000+g,0,0) else if 60<=g/\g<72 then pl (g-60) else if 88<=g/\g<92 then pl (g-76) else(g,0,0)
 glob g hg:=by rw[if_neg (by omega),if_neg (by omega),if_neg (by omega)]
section
variable{es:List Ent}{pl:Nat->Nat×Nat×Nat}{k:Nat}{w0:World}
theorem UZ{t:Nat}(h:t<16):(unkH es pl).place (rid t)=pl t:=by
 have b:=zfP t;show(if 72<=rid t/\rid t<88 then(1000+rid t,0,0) else if 60<=rid t/\rid t<72 then pl (rid t-60) else if 88<=rid t/\rid t<92 then pl (rid t-76) else(rid t,0,0))=pl t;by_cases a:t<12
 .rw[if_pos a]at b;rw[b,if_neg (by omega),if_pos (by omega),Nat.add_sub_cancel_left]
 .rw[if_neg a]at b;rw[b,if_neg (by omega),if_neg (by omega),if_pos (by omega),Nat.add_sub_cancel_left]
theorem zhf{p:Nat×zo}(hp:p∈zfF es k):∃t,t<2*k/\p=(rid t,kp (jD es t).2):=by
 obtain⟨t,h1,h2⟩:=zb6 hp;rw[List.getElem?_map]at h1;obtain⟨e,h3,d⟩:=Option.map_eq_some_iff.1 h1;have a:t<2*k:=by have:=(List.getElem?_eq_some_iff.1 h3).1;simpa using this
 rw[List.getElem?_range a]at h3;cases h3;refine⟨t,a,?_⟩;obtain⟨c,b⟩:=p;rw[Nat.zero_add]at h2;rw[show c=rid t from h2,show kp (jD es t).2=b from d]
theorem zqH{t:Nat}(a:t<2*k):(rid t,kp (jD es t).2)∈zfF es k:=by
 have:=zh9 (bs:=(List.range (2*k)).map fun t=>kp (jD es t).2) (t0:=0) (t:=t) (b:=kp (jD es t).2) (by rw[List.getElem?_map,List.getElem?_range a];rfl);rw[Nat.zero_add]at this;exact this
theorem zbd[Unk](a:k<=8):zD (zfF es k)=true:=by
 refine zbc (by simp;omega) fun b hb=>?_;obtain⟨t,_,rfl⟩:=List.mem_map.1 hb;cases(jD es t).2<;>rfl
theorem zhp[Unk](a:Inj)(s:ByteArray):WF a (.str (zA s))/\zc a (.str (zA s)) = .string s:=by
 refine⟨fun b hb=>?_,?_⟩
 .obtain⟨i,hi,rfl⟩:=List.getElem_of_mem hb;have:=List.getElem?_eq_getElem hi;rw[Xa]at this;obtain⟨c,_,e⟩:=Option.map_eq_some_iff.1 this;rw[<- e];exact c.toNat_lt
 .rw[zc,kz]
theorem zsP(f:k<=8)(b:zgU w0 es k pl)(a:Z6 w0):@zZ (unkH es pl) prog (zfF es k) w0:=by
 letI:=unkH es pl;refine⟨fun id=>some (Unk.place id),fun _ _=>rfl,fun p hp=>?_⟩;obtain⟨t,d,rfl⟩:=zhf hp;obtain⟨h1,h2⟩:=b t d;show zH prog _ (kp (jD es t).2) (Unk.place (rid t)) w0;rw[show Unk.place (rid t)=pl t from UZ (by omega)]
 cases c:(jD es t).2 with
 | none=>
  rw[h1 c];obtain⟨⟨arr,fz,g,_⟩,_⟩:=a
  exact⟨arr,401,fz,g,fun i v hv=>by rw[Tr.get_nil]at hv;cases hv⟩
 | some s=>
  obtain⟨arr,fz,hx⟩:=h2 s c;obtain⟨c1,e⟩:=zhp (fun id=>some (Unk.place id)) s;exact⟨arr,fz,hx.row,hx.text c1 e⟩
theorem back(p:k<=8)(m:k<=es.length)(hl:jo w0 es)(b:zgU w0 es k pl){w:World}(l:@zZ (unkH es pl) prog (zfF es k) w){t:Nat}(h:t<2*k):AtS w (jD es t).1 (jD es t).2:=by
 letI:=unkH es pl;obtain⟨g,r,n⟩:=l;have hb:=n _ (zqH (es:=es) h);rw[show Unk.place ((rid t,kp (jD es t).2):Nat×zo).1=pl t from UZ (by omega)]at hb;have j:=WR hl (t:=t) (by omega);obtain⟨h1,h2⟩:=b t h
 cases d:(jD es t).2 with
 | none=>rw[d]at j;exact j
 | some s=>
  obtain⟨arr,fz,hx⟩:=h2 s d;have hb:zH prog g (kp (jD es t).2) (pl t) w:=hb;rw[d]at hb;obtain⟨a,f,g1,e⟩:=hb;obtain⟨c1,o⟩:=zhp g s;exact⟨pl t,a,f,hx.is,g1,hx.cap,e.size,fun i c hc=>e.cell i c (by rw[o];exact hc),e.thaw⟩
abbrev V(es:List Ent):Nat->Value:=val default .empty .empty es
theorem zyJ(hl:jo w0 es){j:Nat}(a:j<es.length)(g:j<8):letI:=unkH es pl
  (WF (KP.BN 6000 (V es)) (ol j 0)/\zc (KP.BN 6000 (V es)) (ol j 0)=((es[j]?).getD default).2.1)/\(WF (KP.BN 6000 (V es)) (ol j 1)/\zc (KP.BN 6000 (V es)) (ol j 1)=((es[j]?).getD default).2.2):=by
 letI:=unkH es pl;have hm:(es[j]?).getD default∈es:=by rw[List.getElem?_eq_getElem a];exact List.getElem_mem a
 obtain⟨l1,l2⟩:=hl _ hm
 have key:∀i,i<2->WF (KP.BN 6000 (V es)) (ol j i)/\zc (KP.BN 6000 (V es)) (ol j i)=AP.opq es (72+2*j+i):=by
  intro i hi;have b:72+2*j+i<100:=by omega
  refine⟨by show(KP.BN 6000 (V es) (72+2*j+i)).isSome=true;rw[Qu b];rfl,?_⟩;show qe ((KP.BN 6000 (V es) (72+2*j+i)).getD (0,0,0))=_;rw[Qu b,getD_some];show qe (if 72<=72+2*j+i/\72+2*j+i<88 then(1000+(72+2*j+i),0,0) else _)=_;rw[if_pos (by omega)];show AP.opq es (1000+(72+2*j+i)-1000)=_;rw[Nat.add_sub_cancel_left]
 obtain⟨f,e⟩:=key 0 (by decide);obtain⟨d,c⟩:=key 1 (by decide);refine⟨⟨f,?_⟩,⟨d,?_⟩⟩
 .rw[e];unfold AP.opq;rw[if_pos (by omega),show(72+2*j+0-72) / 2=j by omega,Qj (Qi l1)]
 .rw[c];unfold AP.opq;rw[if_neg (by omega),show(72+2*j+1-72) / 2=j by omega,Qj (Qi l2)]
theorem zfT(hl:jo w0 es){j:Nat}(c:j<es.length)(d:j<8):letI:=unkH es pl
  WFs (KP.BN 6000 (V es)) [of j 0,of j 1,of j 2,of j 3,of j 4,of j 5,of j 6,of j 7,of j 8,ol j 0,ol j 1,of j 9,of j 10,of j 11]/\zf (KP.BN 6000 (V es)) [of j 0,of j 1,of j 2,of j 3,of j 4,of j 5,of j 6,of j 7,of j 8,ol j 0,ol j 1,of j 9,of j 10,of j 11]=ZB ((es[j]?).getD default):=by
 letI:=unkH es pl;obtain⟨⟨a,f⟩,⟨b,b'⟩⟩:=zyJ (pl:=pl) hl c d;have e:∀i,i<12->zc (KP.BN 6000 (V es)) (of j i)=(qT es j).at i:=fun i hi=>Q1 (by omega) hi;have w:∀i,i<12->WF (KP.BN 6000 (V es)) (of j i):=fun i hi=>kj (by omega) hi;refine⟨⟨w 0 (by decide),w 1 (by decide),w 2 (by decide),w 3 (by decide),w 4 (by decide),w 5 (by decide),w 6 (by decide),w 7 (by decide),w 8 (by decide),a,b,w 9 (by decide),w 10 (by decide),w 11 (by decide),trivial⟩,?_⟩;simp only[zf];rw[f,b',e 0 (by decide),e 1 (by decide),e 2 (by decide),e 3 (by decide),e 4 (by decide),e 5 (by decide),e 6 (by decide),e 7 (by decide),e 8 (by decide),e 9 (by decide),e 10 (by decide),e 11 (by decide)];rfl
theorem JE(hl:jo w0 es)(d:es.length<=8):letI:=unkH es pl
  WFs (KP.BN 6000 (V es)) (kC es.length)/\zf (KP.BN 6000 (V es)) (kC es.length)=cellsOf es:=by
 letI:=unkH es pl;constructor
 .rw[zV];intro v hv;obtain⟨j,a,hv⟩:=List.mem_flatMap.1 hv;have a:j<es.length:=List.mem_range.1 a;exact(zV _ _).1 (zfT (pl:=pl) hl a (by omega)).1 v hv
 .have c:cellsOf es=(List.range es.length).flatMap fun j=>ZB ((es[j]?).getD default):=JI _ ZB es;rw[c];clear c;unfold kC;have b:=zx (KP.BN 6000 (V es)) ((List.range es.length).flatMap fun j=>[of j 0,of j 1,of j 2,of j 3,of j 4,of j 5,of j 6,of j 7,of j 8,ol j 0,ol j 1,of j 9,of j 10,of j 11]);rw[List.map_flatMap]at b;refine b.trans ?_;unfold List.flatMap;refine congrArg List.flatten ?_;refine List.map_congr_left fun j a=>?_;have a:j<es.length:=List.mem_range.1 a;have:=(zfT (pl:=pl) hl a (by omega)).2;rwa[zx]at this
theorem za6[Unk](j:Nat)(a:j<=9):WFs (KP.BN 6000 (V es)) (hd j):=by
 rw[zV];intro v hv;obtain⟨i,hi,rfl⟩:=List.mem_map.1 hv;have hi:=List.mem_range.1 hi;exact Q7 (by show 100<=2500+32*j+i;omega) (by show 2500+32*j+i<6000;omega)
theorem ze1[Unk]{j:Nat}(a:j<=9):zf (KP.BN 6000 (V es)) (hd j)=zF 32 (qN ((es.map (·.1)).take j)):=by
 unfold hd zF;rw[zx,List.map_map];refine List.map_congr_left fun i hi=>?_;have hi:=List.mem_range.1 hi;show zc _ (.sym (2500+32*j+i))=_;rw[show 2500+32*j+i=2500+(32*j+i) by omega,YL (by omega),show(32*j+i) / 32=j by omega,show(32*j+i) % 32=i by omega]
theorem zpb[Unk]{j:Nat}(a:j<10):WF (KP.BN 6000 (V es)) (tx j)/\zc (KP.BN 6000 (V es)) (tx j) = .string (str (qT es j).qi.bytes):=
 ⟨Q7 (by show 100<=2040+j;omega) (by show 2040+j<6000;omega),KP.jO (by show 100<=2040+j;omega) (by show 2040+j<6000;omega) (by
  show val default .empty .empty es (2040+j)=_;unfold val
  rw[if_neg (by omega),if_neg (by omega),if_neg (by omega),if_neg (by omega),if_pos (by omega),Nat.add_sub_cancel_left]) rfl⟩
theorem zpg{j:Nat}(a:j<es.length):(es.map (·.1)).take (j+1)=(es.map (·.1)).take j++[qT es j]:=by
 rw[take_succ_eq_append_getElem (by rw[length_map];exact a)];congr 1
 unfold qT;rw[List.getElem?_eq_getElem a];simp
end
end RH
end
section
open Go.Proofs
namespace RH
open TR
open AP (of ol kC val kj Q1 Q7 qT yE VH Qj Qi YL QX Kz Ju JI)
open KT (zF J7)
section
variable{es:List Ent}{pl:Nat->Nat×Nat×Nat}{k:Nat}{w0:World}
theorem zkQ[Unk]{T:List (Nat×zo)}:zq prog T (KP.BN 6000 (V es)) zkR:=by
 refine⟨⟨(by intro b hb;simp only[KT.Qb,mem_cons,mem_nil_iff,or_false]at hb;omega),trivial,trivial⟩,show WFs _ (hd 0) from za6 0 (by decide),fun w _=>?_⟩;have a:zc (KP.BN 6000 (V es)) (.agg (hd 0)) = .agg (zF 32 (qN [])).toArray:=by rw[zc,ze1 (by decide),take_zero]
 rw[a];refine Calls.mono (show Calls prog 27 #[.string (str KT.Qb),.slice none 0 0] w _ from KT.zv9) fun e w2 hx=>⟨hx.2,hx.1⟩
theorem XB(h:k<=8)(b:k<=es.length)(hl:jo w0 es)(a:zgU w0 es k pl)(c:∀e∈es,Acc e.1){j:Nat}(l:j<k):letI:=unkH es pl
  zq prog (zfF es k) (KP.BN 6000 (V es)) (XC j):=by
 letI:=unkH es pl;obtain⟨q1,q2⟩:=zfT (pl:=pl) hl (j:=j) (by omega) (by omega);obtain⟨t1,t2⟩:=zpb (es:=es) (j:=j) (by omega);have hm:(es[j]?).getD default∈es:=by rw[List.getElem?_eq_getElem (show j<es.length by omega)];exact List.getElem_mem _
 refine zad (s:=str (qT es j).qi.bytes) ⟨q1,trivial⟩ (by show 2040+j<6000;omega) t1 t2 (fun w g=>?_);have f:=back h b hl a g (t:=2*j) (by omega);have d:=back h b hl a g (t:=2*j+1) (by omega);unfold jD at f d;rw[if_pos (by omega),show 2*j / 2=j by omega]at f;rw[if_neg (by omega),show(2*j+1) / 2=j by omega]at d
 have i:(zf (KP.BN 6000 (V es)) [zwx j]).toArray = #[.agg (ZB ((es[j]?).getD default)).toArray]:=by
  rw[zf,zwx,zc,q2];rfl
 rw[i];exact zdI _ (c _ hm).plain f d
theorem zb5(Y:k<=8)(X:k<=es.length)(B:∀e∈es,Acc e.1){j:Nat}(hj:j<k):letI:=unkH es pl
  zq prog (zfF es k) (KP.BN 6000 (V es)) (zfB j):=by
 letI:=unkH es pl;have hm:(es[j]?).getD default∈es:=by rw[List.getElem?_eq_getElem (show j<es.length by omega)];exact List.getElem_mem _
 have H:=B _ hm;let R:=qT es j
 obtain⟨U,T⟩:=Qs (R:=R) H.ok H.good H.day;unfold zfB;refine KS.Ql (by decide) (zbd Y) rfl rfl rfl ?_
 have z:∀p∈Yy j,p=(6000,zo.cells 51 2 (Tr.ofList [.slice 6001 0 32 32 true,.osl 6002 (tx j)]))\/p=zbI j\/p=(6002,zo.text 5 (tx j)):=by
  intro p hp;simpa only[Yy,mem_cons,mem_nil_iff,or_false] using hp
 have v:((6000,zo.cells 51 2 (Tr.ofList [.slice 6001 0 32 32 true,.osl 6002 (tx j)])):Nat×zo)∈Yy j:=mem_cons_self;have u:zbI j∈Yy j:=mem_cons_of_mem _ mem_cons_self;have D:((6002,zo.text 5 (tx j)):Nat×zo)∈Yy j:=mem_cons_of_mem _ (mem_cons_of_mem _ mem_cons_self);refine zqE (fun p hp=>?_) ⟨_,u,rfl⟩ (Nat.le_refl _) (show WFs _ (hd (j+1)) from za6 (j+1) (by omega)) (fun β' w hle d hb p hp=>?_) fun β' w hle Z ht b a d=>?_
 .rcases z p hp with rfl|rfl|rfl
  .exact(by decide:100<=6000)
  .exact(by decide:100<=6001)
  .exact(by decide:100<=6002)
 .have L:(β' 6000).isSome:=d.2.1.1;obtain⟨g,G⟩:=Option.isSome_iff_exists.1 L;obtain⟨arr,fz,_,K⟩:=hb _ v g G;have c0:=(K.cell 0 (.slice 6001 0 32 32 true) (by rw[Tr.qc];rfl)).1;have c1:=(K.cell 1 (.osl 6002 (tx j)) (by rw[Tr.qc];rfl)).1;rcases z p hp with rfl|rfl|rfl
  .exact L
  .exact c0.1
  .exact c1.1
 .obtain⟨g,t,g0,n0⟩:=b _ v;obtain⟨i,n,g1,n1⟩:=b _ u;obtain⟨f,r,g2,n2⟩:=b _ D;have t:β' 6000=some g:=t;have n:β' 6001=some i:=n;have r:β' 6002=some f:=r
  have C:zc β' (tx j) = .string (str R.qi.bytes):=by
   rw[(WF.mono hle _ (zpb (es:=es) (by omega)).1).2];exact(zpb (es:=es) (by omega)).2
  have y:(str R.qi.bytes).size=R.qi.bytes.length:=qm _;obtain⟨t1,t2⟩:=Ju g2 C;rw[y]at t1 t2;have J:=zw.of (by rfl) g0
  have el:zf β' [.slice 6001 0 32 32 true,.osl 6002 (tx j)]=[.slice (some ⟨i.1,i.2.1,none⟩) 32 32,.slice (some ⟨f.1,f.2.1,none⟩) R.qi.bytes.length (R.qi.bytes.length+(f.2.2-R.qi.bytes.length))]:=by
   simp only[zf];rw[zc,zc,C];simp only[Inj.addr,Inj.blk,Inj.sh,Inj.ext,n,r,sOf,getD_some,y];rw[Nat.add_sub_cancel' t1];simp
  rw[el]at J;have A:(hd j).length=32:=by unfold hd;rw[length_map,length_range]
  have I:=zw.of (l:=hd j) A g1;rw[(WFs.mono hle _ (za6 j (by omega))).2,ze1 (by omega)]at I;have a:g.1≠i.1/\g.1≠f.1/\i.1≠f.1:=⟨fun e=>absurd (show(6000:Nat)=6001 from a _ v _ u _ _ t n e) (by decide),fun e=>absurd (show(6000:Nat)=6002 from a _ v _ D _ _ t r e) (by decide),fun e=>absurd (show(6001:Nat)=6002 from a _ u _ D _ _ n r e) (by decide)⟩
  have key:=KT.zBu U T (h:=qN ((es.map (·.1)).take j)) (e:=zj9 R) (QX _) (Kz R) (px:=g) (hx:=i) (ex:=(f.1,f.2.1,f.2.2-R.qi.bytes.length)) J I t2 a.1 a.2.1 a.2.2
  have ea:(zf β' [.str KT.JA,.slice 6000 0 2 2 true]).toArray = #[.string (str KT.JA),.slice (some ⟨g.1,g.2.1,none⟩) 2 2]:=by
   simp[zf,zc,Inj.addr,Inj.blk,Inj.sh,t]
  have er:zc β' (.agg (hd (Nat.succ j))) = .agg (zF 32 (J7 R.qi.bytes.length (qN ((es.map (·.1)).take j)) (zj9 R))).toArray:=by
   rw[zc,(WFs.mono hle _ (za6 (j+1) (by omega))).2,ze1 (by omega),zpg (by omega),zdr];rfl
  rw[ea,er];refine key.mono fun o w2 hq=>?_;obtain⟨q1,q2,Q,P,O,N,M⟩:=hq;refine⟨q1,fun c hc m=>q2 c hc (m _ v g t) (m _ u i n) (m _ D f r),Q,P,O,N,fun x hx=>?_⟩;have hx:β' 6001=some x:=hx;rw[n]at hx;cases hx;exact zw.blk (l:=hd j) A (WFs.mono hle _ (za6 j (by omega))).1 (by rw[(WFs.mono hle _ (za6 j (by omega))).2,ze1 (by omega)];exact M)
theorem jb{n:Nat}{p:Nat×zo}(hp:p∈rows n):n≠0/\p=(6000,zo.cells 86 (Nat.mul 14 n) (Tr.ofList (kC n))):=by
 cases n with
 | zero=>cases hp
 | succ n=>exact⟨by omega,List.mem_singleton.1 hp⟩
theorem zcQ{n:Nat}(hn:n≠0):(6000,zo.cells 86 (Nat.mul 14 n) (Tr.ofList (kC n)))∈rows n:=by
 cases n with
 | zero=>exact absurd rfl hn
 | succ n=>exact List.mem_singleton.2 rfl
def Part(wv v:Value)(n k:Nat):Prop:=(n=0->v = .slice none 0 0)/\(n≠0->∃p c,wv = .slice p n c/\v = .slice p k c)
theorem Jl{w:World}{H v:Value}(hw:yC w 86 H es)(hl:jo w es)(B:∀e∈es,Acc e.1)(few:es.length<=8)(M:k=es.length)(r:Z6 w)(hp:Part H v es.length k) :
  Calls prog 9 #[v] w fun e w2=>qy w w2/\Vu H w w2/\yC w2 86 H es/\e = .returned (.agg (zF 32 (qN ((es.map (·.1)).take k))).toArray):=by
 have G:=Nat.le_of_eq M;obtain⟨o,D⟩:=znF hl G;letI:=unkH es o;have T:k<=8:=by omega
 obtain⟨rx,q1,q2⟩:∃rx:Nat×Nat×Nat,(es=[]->H = .slice none 0 0/\rx=(w.heap.size,0,0))/\(es≠[]->H = .slice (some ⟨rx.1,rx.2.1,none⟩) es.length (es.length+rx.2.2)/\zw prog w rx 86 (cellsOf es)):=by
  by_cases he:es=[]
  .exact⟨(w.heap.size,0,0),fun _=>⟨hw.1 he,rfl⟩,fun h=>absurd he h⟩
  .obtain⟨y,h1,h2⟩:=hw.2 he;exact⟨y,fun h=>absurd h he,fun _=>⟨h1,h2⟩⟩
 have L:es.length≠0->es≠[]:=fun h e=>h (by rw[e];rfl);have d:run es.length k ((List.range (2*k)).map fun t=>kp (jD es t).2)=true:=by rw[M];exact runs few _
 unfold run at d;let J:=E k (zfF es k)
 cases hr:qj J (jg J 1000000) 9 [arg es.length k] (qR J 6001 (rows es.length)) with
 | none=>rw[show qj (E k (kW ((List.range (2*k)).map fun t=>kp (jD es t).2) 0)) (jg (E k (kW ((List.range (2*k)).map fun t=>kp (jD es t).2) 0)) 1000000) 9 [arg es.length k] (qR (E k (kW ((List.range (2*k)).map fun t=>kp (jD es t).2) 0)) 6001 (rows es.length))=none from hr]at d;cases d
 | some z=>
  obtain⟨u,H'⟩:=z;rw[show qj (E k (kW ((List.range (2*k)).map fun t=>kp (jD es t).2) 0)) (jg (E k (kW ((List.range (2*k)).map fun t=>kp (jD es t).2) 0)) 1000000) 9 [arg es.length k] (qR (E k (kW ((List.range (2*k)).map fun t=>kp (jD es t).2) 0)) 6001 (rows es.length))=some (u,H') from hr,zd,zk,Bool.and_eq_true]at d;have Z:=zM _ _ d.1;have Z:u = .agg (hd k):=Z;subst Z
  have C:∀p∈rows es.length,H'.blk.get p.1=some p.2:=by
   intro p hp;have:=KP.ZD (α:=Nat×zo) (p:=fun q=>zh (H'.blk.get q.1) false fun b=>Zh b q.2) (l:=rows es.length) d.2 p hp
   cases hg:H'.blk.get p.1 with
   | none=>rw[hg]at this;cases this
   | some b=>
    rw[hg,zd]at this;rw[yy this]
  let σ:=KP.JU 6000 (V es)
  let pl:Nat->Nat×Nat×Nat:=fun _=>rx
  let β:=qB σ 6000 1 pl
  have hle:(KP.BN 6000 (V es)).le β:=jT (by decide) KP.qU;have b0:β 6000=some rx:=qv (by decide) (by decide);obtain⟨a1,a2⟩:=JE (pl:=o) hl few
  have hin:∀p∈rows es.length,6000<=p.1/\p.1<6000+1:=by
   intro p hp;obtain⟨_,rfl⟩:=jb hp;exact⟨by show 6000<=6000;omega,by show 6000<6001;omega⟩
  have A:WF β (arg es.length k)/\zc β (arg es.length k)=v:=by
   by_cases he:es=[]
   .rw[hp.1 (by rw[he];rfl),he];exact⟨trivial,rfl⟩
   .obtain⟨p,c,e1,e2⟩:=hp.2 (fun h=>he (eq_nil_of_length_eq_zero h));rw[(q2 he).1]at e1;cases e1;rw[e2]
    cases hes:es.length with
    | zero=>exact absurd (eq_nil_of_length_eq_zero hes) he
    | succ n=>
     refine⟨⟨by rw[b0];rfl,by omega⟩,?_⟩;show zc β (.slice 6000 0 k (n+1) false)=_;simp[zc,Inj.addr,Inj.blk,Inj.sh,Inj.ext,b0]
  have P:∀p∈rows es.length,zH prog β p.2 (pl p.1) w:=by
   intro p hp;obtain⟨hn,rfl⟩:=jb hp;exact zw.blk (l:=kC es.length) (yE _) (WFs.mono hle _ a1).1 (by rw[(WFs.mono hle _ a1).2,a2];exact(q2 (L hn)).2)
  have O:∀p∈rows es.length,∀q∈rows es.length,(pl p.1).1=(pl q.1).1->p.1=q.1:=by
   intro p hp q hq _;obtain⟨_,rfl⟩:=jb hp;obtain⟨_,rfl⟩:=jb hq;rfl
  have K:∀p∈rows es.length,∀t∈zfF es k,(Unk.place t.1).1≠(pl p.1).1:=by
   intro p hp t ht e;obtain⟨hn,rfl⟩:=jb hp;obtain⟨arr,fz,g1,_⟩:=(q2 (L hn)).2;obtain⟨t,htl,rfl⟩:=zhf ht;have e:(Unk.place (rid t)).1=rx.1:=e;rw[show Unk.place (rid t)=o t from UZ (by omega)]at e;rw[<- e]at g1
   have key:∃(a:Array Value) (i:Nat×Nat) (u:Nat),w.heap[(o t).1]?=some (Obj.cells a u i)/\(u=3\/u=401):=by
    obtain⟨h1,h2⟩:=D t htl
    cases ho:(jD es t).2 with
    | none=>
     rw[h1 ho];obtain⟨⟨a,i,g,_⟩,_⟩:=r
     exact⟨a,i,401,g,.inr rfl⟩
    | some s=>
     obtain⟨a,i,hx⟩:=h2 s ho;exact⟨a,i,3,hx.row,.inl rfl⟩
   obtain⟨a,i,u,g3,g4⟩:=key;rw[g3]at g1;simp only[Option.some.injEq,Obj.cells.injEq]at g1;have:(u:Nat)=86:=g1.2.1;omega
  have Q:FitA J:=(yT KP.jW KP.ZJ (fun p hp=>by
   have hp:p∈[((27:FuncId),Spec.fact),((28:FuncId),Spec.fact)]:=hp;simp only[mem_cons,mem_nil_iff,or_false]at hp
   rcases hp with rfl|rfl<;>trivial)).toFitA
  have hfacts:zC J (zJ σ):=by
   intro f x;have x:f∈zkR::(List.range k).flatMap fun j=>[XC j,zfB j]:=x;rcases List.mem_cons.1 x with rfl|x
   .exact zkQ
   .obtain⟨j,U,x⟩:=List.mem_flatMap.1 x;have U:j<k:=List.mem_range.1 U;simp only[mem_cons,mem_nil_iff,or_false]at x;rcases x with rfl|rfl
    .exact XB T G hl D B U
    .exact zb5 T G B U
  have:=ZG (E:=J) (σ:=σ) (N:=6000) (m:=1) (pl:=pl) Q (by decide) KP.qU hfacts (QG rfl) (zbd T) (zsP T D r) hin P O K hr ⟨A.1,trivial⟩;have ea:(zf β [arg es.length k]).toArray = #[v]:=by rw[zf,zf,A.2]
  rw[ea]at this;refine this.mono fun e w2 hx=>?_;obtain⟨I,γ,rfl,g1,g2,g3,_⟩:=hx
  have lowγ:(KP.BN 6000 (V es)).le γ:=fun id y Y=>by
   have hid:id<6000:=by
    rcases Nat.lt_or_ge id 6000 with h|h
    .exact h
    .rw[KP.YK (by decide) id h]at Y;cases Y
   rw[g2 id (by omega)];exact hle id y Y
  have c0:γ 6000=some rx:=by rw[g2 6000 (by decide)];exact b0
  refine⟨⟨fun c arr t fz hc n1 n2 n3 n4=>I.frame c (Array.getElem?_eq_some_iff.1 hc).1 fun j j1 j2 e=>?_,I.size,I.tape,I.os,I.output⟩,fun c hc hn=>I.frame c hc fun j j1 j2 e=>?_,⟨hw.1,fun he=>?_⟩,?_⟩
  .have e:rx.1=c:=e;by_cases he:es=[]
   .rw[(q1 he).2]at e;have:=(Array.getElem?_eq_some_iff.1 hc).1;have e:w.heap.size=c:=e;omega
   .obtain⟨a,i,X,_⟩:=(q2 he).2;rw[e,hc]at X;simp only[Option.some.injEq,Obj.cells.injEq]at X;exact n4 X.2.1
  .have e:rx.1=c:=e;by_cases he:es=[]
   .rw[(q1 he).2]at e;have e:w.heap.size=c:=e;omega
   .exact hn _ _ _ (q2 he).1 e
  .have hn:es.length≠0:=fun h=>he (eq_nil_of_length_eq_zero h);have:=zw.of (l:=kC es.length) (yE _) (g3.blk 6000 _ rx (C _ (zcQ hn)) c0);rw[(WFs.mono lowγ _ a1).2,a2]at this;exact⟨rx,(q2 he).1,this⟩
  .rw[zc,(WFs.mono lowγ _ (za6 k (by omega))).2,ze1 (by omega)]
end
end RH
end
section
open Go.Proofs
namespace TC
open TR
open AP (of ol nf yX kC yO Zu rows kept jY Ud Zc zak Qn zeb yP unkA val Two Ji jb zac zab zaa zgc yE YN JE Yc Zn ZC QI Vv YH Q7 yY yZ zbg Q8 Xl QX yk)
open KT (zF)
theorem Jg(F:List Fact)(T:List (Nat×zo))[Unk]:Fit (E F T):=yT KP.jW KP.ZJ (fun p hp=>by
 have hp:p∈[((31:FuncId),Spec.fact),((65:FuncId),Spec.fact)]:=hp;simp only[mem_cons,mem_nil_iff,or_false]at hp
 rcases hp with rfl|rfl<;>trivial)
section
variable{R:zy}{s1 s2:ByteArray}{es:List Ent}{x1 x2:Nat×Nat×Nat}{w:World}{tv:Value}{B:Nat->Prop}
theorem znk{F : List Fact}{T : List (Nat × zo)}{f : FuncId}{extra : List zb}{ok : zb -> Heap -> Bool}(few : es.length <= 8)(ht : zU B w tv es)
    (hcl : letI := unkA x1 x2 s1 s2 es; zD T = true) (hT : @zZ (unkA x1 x2 s1 s2 es) prog T w)
    (hS : letI := unkA x1 x2 s1 s2 es; ∀t ∈ T, ∃(arr : Array Value) (fz : Nat × Nat) (u : Nat), w.heap[(Unk.place t.1).1]?=some (Obj.cells arr u fz) /\ u ≠ 96 /\ u ≠ 42 /\ u ≠ 29)
    (hf : letI := unkA x1 x2 s1 s2 es; ∀f ∈ F, zq prog T (KP.BN 6000 (val R s1 s2 es)) f) (hx : letI := unkA x1 x2 s1 s2 es; WFs (KP.BN 6000 (val R s1 s2 es)) extra)
    (hk : ∀v H, ok v H = true -> kept es.length H = true) (hchk : run F T f es.length extra ok = true) :
    Calls prog f (tv :: (letI := unkA x1 x2 s1 s2 es; zf (KP.BN 6000 (val R s1 s2 es)) extra)).toArray w fun e w2 => qy w w2 /\ Zy B w w2 /\ zU B w2 tv es /\
      (letI := unkA x1 x2 s1 s2 es; ∃a v H', e = .returned (zc a v) /\ WF a v /\ (KP.BN 6000 (val R s1 s2 es)).le a /\ Rel prog a H' w2 /\ ok v H' = true) := by
  letI := unkA x1 x2 s1 s2 es;obtain⟨⟨x, hd, r, rfl, I, G, rr, bx, bh, br⟩, hl⟩ := ht
  obtain⟨rx, q1, q2⟩ : ∃rx : Nat × Nat × Nat, (es = [] -> r = .slice none 0 0 /\ rx = x) /\ (es ≠ [] -> r = .slice (some ⟨rx.1, rx.2.1, none⟩) es.length (es.length + rx.2.2) /\ zw prog w rx 42 (cellsOf es)) := by
    by_cases he : es = []
    · exact⟨x, fun _ => ⟨rr.1 he, rfl⟩, fun h => absurd he h⟩
    · obtain⟨y, h1, h2⟩ := rr.2 he
      exact⟨y, fun h => absurd h he, fun _ => ⟨h1, h2⟩⟩
  have O : es.length ≠ 0 -> es ≠ [] := fun h e => h (by rw[e]; rfl);unfold run at hchk;let E' := E F T
  cases hr : qj E' (jg E' 1000000) f (.ptr 6000 0 :: extra) (qR E' 6003 (rows es.length)) with
  | none => rw[show qj (E F T) (jg (E F T) 1000000) f (.ptr 6000 0 :: extra) (qR (E F T) 6003 (rows es.length)) = none from hr] at hchk; cases hchk
  | some z =>
    obtain⟨v, H'⟩ := z;rw[show qj (E F T) (jg (E F T) 1000000) f (.ptr 6000 0 :: extra) (qR (E F T) 6003 (rows es.length)) = some (v, H') from hr, zd] at hchk;let σ := KP.JU 6000 (val R s1 s2 es)
    let pl : Nat -> Nat × Nat × Nat := fun id => if id = 6000 then x else if id = 6001 then rx else hd
    let β := qB σ 6000 3 pl
    have hle : (KP.BN 6000 (val R s1 s2 es)).le β := jT (by decide) KP.qU;have Z : β 6000 = some x := qv (by decide) (by decide);have b1 : β 6001 = some rx := qv (by decide) (by decide);have b2 : β 6002 = some hd := qv (by decide) (by decide);obtain⟨a1, a2⟩ := JE (R := R) (x1 := x1) (x2 := x2) (s1 := s1) (s2 := s2) hl few;have a3 := Yc (R := R) (s1 := s1) (s2 := s2) (es := es) es.length (by omega);have a4 := Zn (R := R) (s1 := s1) (s2 := s2) (es := es) (by omega)
    have hin : ∀p ∈ rows es.length, 6000 <= p.1 /\ p.1 < 6000 + 3 := by
      intro p hp;rcases jb hp with rfl|⟨_, rfl⟩|rfl
      · exact⟨by show 6000 <= 6000; omega, by show 6000 < 6003; omega⟩
      · exact⟨by show 6000 <= 6001; omega, by show 6001 < 6003; omega⟩
      · exact⟨by show 6000 <= 6002; omega, by show 6002 < 6003; omega⟩
    have b : ∀a : Inj, a 6000 = some x -> a 6001 = some rx -> a 6002 = some hd -> WFs a [Zu es.length, .slice 6002 0 (Nat.succ es.length) (Nat.succ es.length) false] /\
        zf a [Zu es.length, .slice 6002 0 (Nat.succ es.length) (Nat.succ es.length) false] = [r, .slice (some ⟨hd.1, hd.2.1, none⟩) (es.length + 1) (es.length + 1 + hd.2.2)] := by
      intro a c0 c1 Y
      have hs : WF a (Zu es.length) /\ zc a (Zu es.length) = r := by
        by_cases he : es = []
        · rw[(q1 he).1, he]
          exact⟨trivial, rfl⟩
        · rw[(q2 he).1]
          cases hes : es.length with
          | zero => exact absurd (eq_nil_of_length_eq_zero hes) he
          | succ n =>
            refine⟨⟨by rw[c1]; rfl, Nat.le_refl _⟩, ?_⟩;show zc a (.slice 6001 0 (n + 1) (n + 1) false) = _;simp[zc, Inj.addr, Inj.blk, Inj.sh, Inj.ext, c1]
      refine⟨⟨hs.1, ⟨by rw[Y]; rfl, Nat.le_refl _⟩, trivial⟩, ?_⟩;simp only[zf];rw[hs.2];simp[zc, Inj.addr, Inj.blk, Inj.sh, Inj.ext, Y]
    have U : ∀p ∈ rows es.length, zH prog β p.2 (pl p.1) w := by
      intro p hp;rcases jb hp with rfl|⟨hn, rfl⟩|rfl
      · exact zw.blk (l := [Zu es.length, .slice 6002 0 (Nat.succ es.length) (Nat.succ es.length) false]) rfl (b β Z b1 b2).1 (by rw[(b β Z b1 b2).2]; exact I)
      · exact zw.blk (l := kC es.length) (yE _) (WFs.mono hle _ a1).1 (by rw[(WFs.mono hle _ a1).2, a2]; exact(q2 (O hn)).2)
      · exact zw.blk (l := yO es.length) (YN _) (WFs.mono hle _ a3).1 (by rw[(WFs.mono hle _ a3).2, a4]; exact G)
    have types : ∀p ∈ rows es.length, ∃(arr : Array Value) (fz : Nat × Nat) (t : Nat), w.heap[(pl p.1).1]?=some (Obj.cells arr t fz) /\ (p.1 = 6000 /\ t = 96 \/ p.1 = 6001 /\ t = 42 \/ p.1 = 6002 /\ t = 29) := by
      intro p hp;rcases jb hp with rfl|⟨hn, rfl⟩|rfl
      · obtain⟨arr, fz, g, _⟩ := I
        exact⟨arr, fz, 96, g, .inl ⟨rfl, rfl⟩⟩
      · obtain⟨arr, fz, g, _⟩ := (q2 (O hn)).2
        exact⟨arr, fz, 42, g, .inr (.inl ⟨rfl, rfl⟩)⟩
      · obtain⟨arr, fz, g, _⟩ := G
        exact⟨arr, fz, 29, g, .inr (.inr ⟨rfl, rfl⟩)⟩
    have Q : ∀p ∈ rows es.length, ∀q ∈ rows es.length, (pl p.1).1 = (pl q.1).1 -> p.1 = q.1 := by
      intro p hp q hq e;obtain⟨arr, fz, t, g1, L⟩ := types p hp;obtain⟨i, o, t', A, g4⟩ := types q hq;rw[e, A] at g1;simp only[Option.some.injEq, Obj.cells.injEq] at g1;have : (_ : Nat) = (_ : Nat) := g1.2.1;omega
    have M : ∀p ∈ rows es.length, ∀t ∈ T, (Unk.place t.1).1 ≠ (pl p.1).1 := by
      intro p hp t ht e;obtain⟨arr, fz, u, g1, L⟩ := types p hp;rw[<- e] at g1;obtain⟨i, o, D, A, g4⟩ := hS t ht;rw[A] at g1;simp only[Option.some.injEq, Obj.cells.injEq] at g1;have : (_ : Nat) = (_ : Nat) := g1.2.1;omega
    have hfacts : zC E' (zJ σ) := hf;have := ZG (E := E') (σ := σ) (N := 6000) (m := 3) (pl := pl) (Jg F T).toFitA (by decide) KP.qU hfacts (QG rfl) hcl hT hin U Q M hr ⟨by show(β 6000).isSome = true; rw[Z]; rfl, (WFs.mono hle _ hx).1⟩
    have ea : (zf β (.ptr 6000 0 :: extra)).toArray = (.pointer (some ⟨x.1, x.2.1, none⟩) :: zf (KP.BN 6000 (val R s1 s2 es)) extra).toArray := by
      rw[zf, (WFs.mono hle _ hx).2];simp[zc, Inj.addr, Inj.blk, Inj.sh, Z]
    rw[ea] at this;refine this.mono fun e w2 hx => ?_;obtain⟨K, a, rfl, g1, L, A, _⟩ := hx
    have lowγ : (KP.BN 6000 (val R s1 s2 es)).le a := fun id y hy => by
      have hid : id < 6000 := by
        rcases Nat.lt_or_ge id 6000 with h|h
        · exact h
        · rw[KP.YK (by decide) id h] at hy; cases hy
      rw[L id (by omega)];exact hle id y hy
    have c0 : a 6000 = some x := by rw[L 6000 (by decide)]; exact Z
    have c1 : a 6001 = some rx := by rw[L 6001 (by decide)]; exact b1
    have Y : a 6002 = some hd := by rw[L 6002 (by decide)]; exact b2
    have hB : ∀j, 6000 <= j -> j < 6000 + 3 -> B (pl j).1 := by
      intro j j1 j2;have hj : j = 6000 \/ j = 6001 \/ j = 6002 := by omega
      rcases hj with rfl|rfl|rfl
      · exact bx
      · by_cases he : es = []
        · show B rx.1
          rw[(q1 he).2];exact bx
        · exact br _ _ _ (q2 he).1
      · exact bh
    have hlow : ∀c, c < w.heap.size -> ¬B c -> w2.heap[c]?=w.heap[c]? := fun c hc hn => K.frame c hc fun j j1 j2 e => hn (e ▸ hB j j1 j2)
    have P : Zy B w w2 := by
      refine⟨fun c arr t fz hc n1 n2 n3 => K.frame c (Array.getElem?_eq_some_iff.1 hc).1 fun j j1 j2 e => ?_, hlow⟩
      have key : ∃(i : Array Value) (o : Nat × Nat) (D : Nat), w.heap[(pl j).1]?=some (Obj.cells i D o) /\ (D = 96 \/ D = 42 \/ D = 29) := by
        obtain⟨C, X, z0, _⟩ := I;obtain⟨arr2, fz2, z2, _⟩ := G;have hj : j = 6000 \/ j = 6001 \/ j = 6002 := by omega
        rcases hj with rfl|rfl|rfl
        · exact⟨C, X, 96, z0, .inl rfl⟩
        · by_cases he : es = []
          · refine⟨C, X, 96, ?_, .inl rfl⟩
            show w.heap[rx.1]?=_;rw[(q1 he).2];exact z0
          · obtain⟨arr1, fz1, z1, _⟩ := (q2 he).2
            exact⟨arr1, fz1, 42, z1, .inr (.inl rfl)⟩
        · exact⟨arr2, fz2, 29, z2, .inr (.inr rfl)⟩
      obtain⟨i, o, D, k1, k2⟩ := key;rw[e, hc] at k1;simp only[Option.some.injEq, Obj.cells.injEq] at k1;have J : t = D := k1.2.1;rcases k2 with k2|k2|k2
      · exact n1 (J.trans k2)
      · exact n2 (J.trans k2)
      · exact n3 (J.trans k2)
    have k : qy w w2 := ⟨fun c arr t fz hc n1 n2 n3 _ => P.1 c arr t fz hc n1 n2 n3, K.size, K.tape, K.os, K.output⟩
    have d := zgc (hk v H' hchk);refine⟨k, P, ⟨⟨x, hd, r, rfl, ?_, ?_, ⟨rr.1, fun he => ?_⟩, bx, bh, br⟩, k.lists hl⟩, a, v, H', rfl, g1, lowγ, A, hchk⟩
    · have := zw.of (l := [Zu es.length, .slice 6002 0 (Nat.succ es.length) (Nat.succ es.length) false]) rfl (A.blk 6000 _ x (d _ (zac _)) c0)
      rwa[(b a c0 c1 Y).2] at this
    · have := zw.of (l := yO es.length) (YN _) (A.blk 6002 _ hd (d _ (zaa _)) Y)
      rwa[(WFs.mono lowγ _ a3).2, a4] at this
    · have hn : es.length ≠ 0 := fun h => he (eq_nil_of_length_eq_zero h)
      have := zw.of (l := kC es.length) (yE _) (A.blk 6001 _ rx (d _ (zab hn)) c1);rw[(WFs.mono lowγ _ a1).2, a2] at this;exact⟨rx, (q2 he).1, this⟩
theorem zqd{k:Nat}{u v:zb}{H:Heap}(h:okV k u v H=true):v=u/\kept k H=true:=by
 unfold okV at h;simp only[zk,Bool.and_eq_true]at h;exact⟨zM _ _ h.1,h.2⟩
theorem reader{F:List Fact}{f:FuncId}{extra:List zb}{u:zb}(few:es.length<=8)(a:zU B w tv es)
  (hf:letI:=unkA (0,0,0) (0,0,0) .empty .empty es;∀f∈F,zq prog [] (KP.BN 6000 (val R .empty .empty es)) f)
  (hx:letI:=unkA (0,0,0) (0,0,0) .empty .empty es;WFs (KP.BN 6000 (val R .empty .empty es)) extra) (hu:letI:=unkA (0,0,0) (0,0,0) .empty .empty es;WF (KP.BN 6000 (val R .empty .empty es)) u)
  (hchk:run F [] f es.length extra (okV es.length u)=true) :
  Calls prog f (tv::(letI:=unkA (0,0,0) (0,0,0) .empty .empty es;zf (KP.BN 6000 (val R .empty .empty es)) extra)).toArray w fun e w2=>qy w w2/\Zy B w w2/\zU B w2 tv es /\
   e = .returned (letI:=unkA (0,0,0) (0,0,0) .empty .empty es;zc (KP.BN 6000 (val R .empty .empty es)) u):=by
 letI:=unkA (0,0,0) (0,0,0) .empty .empty es;refine(znk (R:=R) (x1:=(0,0,0)) (x2:=(0,0,0)) (s1:=.empty) (s2:=.empty) few a rfl qz (fun t a=>by cases a) hf hx (fun v H h=>(zqd h).2) hchk).mono fun e w2 hx=>?_;obtain⟨g,d,c,i,v,H',rfl,_,hle,_,b⟩:=hx;rw[(zqd b).1];exact⟨g,d,c,by rw[(WF.mono hle _ hu).2]⟩
theorem zwk{k:Nat}(d:k<=8):zmT k=true/\zr3 k=true/\zgx k true=true/\zgx k false=true/\(∀j,j<=k->zr4 k j=true)/\(k≠0->∀a b:Option ByteArray,ziZ k (cnt a) (cnt b)=true):=by
 have h:=AP.UO (p:=fun k=>zdz k=true) zBs zBr zBq zBp zBo zBn zBm zBl zBk d;unfold zdz at h;simp only[zk,Bool.and_eq_true]at h;obtain⟨h1,h2,h3,g,f,c⟩:=h;refine⟨h1,h2,h3,g,fun j e=>jh (p:=fun j=>zr4 k j) (l:=List.range (Nat.succ k)) f j (List.mem_range.2 (lt_succ_of_le e)),fun hn a b=>?_⟩
 cases k with
 | zero=>exact absurd rfl hn
 | succ k=>
  dsimp only[qW]at c;exact yk c a b
theorem ztC(j:Nat):Zc j=RH.hd j:=rfl
theorem zaf[Unk]{j:Nat}(a:j<=9):WFs (KP.BN 6000 (val default .empty .empty es)) (Zc j)/\zc (KP.BN 6000 (val default .empty .empty es)) (.agg (Zc j)) = .agg (zF 32 (qN ((es.map (·.1)).take j))).toArray:=by
 rw[ztC];exact⟨RH.za6 _ a,by rw[zc,RH.ze1 a]⟩
theorem Jl(few:es.length<=8)(a:zU B w tv es):Calls prog 8 #[tv] w fun e w2=>qy w w2/\Zy B w w2/\zU B w2 tv es/\e = .returned (.agg (zF 32 (qN (es.map (·.1)))).toArray):=by
 letI:=unkA (0,0,0) (0,0,0) .empty .empty es;have:=reader (R:=default) (F:=[]) (f:=8) (extra:=[]) (u:=.agg (Zc es.length)) few a (fun f b=>by cases b) trivial (zaf (by omega)).1 (zwk few).1
 have c:zc (KP.BN 6000 (val default .empty .empty es)) (.agg (Zc es.length)) = .agg (zF 32 (qN (es.map (·.1)))).toArray:=by
  rw[(zaf (by omega)).2,take_of_length_le (by rw[length_map];exact Nat.le_refl _)]
 rw[c]at this;exact this
end
end TC
end
section
open Go.Proofs
namespace TC
open TR
open AP (of ol nf yX kC yO Zu rows kept jY Ud Zc zak Qn zeb yP unkA val Two Ji JE Yc Zn ZC QI Vv YH Q7 yY yZ kj Q1 zbg Q8 Xl QX yk qT zhW)
open KT (zF)
section
variable{es:List Ent}{w:World}{tv:Value}{B:Nat->Prop}
end
end TC
end
section
open Go.Proofs
namespace TC
open TR
open AP (of ol nf yX kC yO Zu rows kept jY Ud Zc zak Qn zeb yP unkA val Two Ji JE Yc Zn ZC QI Vv YH Q7 yY yZ kj Q1 zbg Q8 Xl QX yk qT zhW)
open KT (zF)
section
variable{es:List Ent}{w:World}{tv:Value}{B:Nat->Prop}
theorem KM(I:∀c,w.heap.size<=c->B c)(Q:Z6 w):Calls prog 22 #[] w fun e w2=>Grown w w2/\∃t,e = .returned t/\zU B w2 t []:=by
 letI:=unkA (0,0,0) (0,0,0) .empty .empty [];let v:=E [Wf] KP.tabs
 have hc:=tcw;unfold JL at hc
 cases D:qj v (jg v 1000000) 22 [] (ja v 6003) with
 | none=>rw[show qj (E [Wf] KP.tabs) (jg (E [Wf] KP.tabs) 1000000) 22 [] (ja (E [Wf] KP.tabs) 6003)=none from D]at hc;cases hc
 | some p=>
  obtain⟨u,H'⟩:=p;rw[show qj (E [Wf] KP.tabs) (jg (E [Wf] KP.tabs) 1000000) 22 [] (ja (E [Wf] KP.tabs) 6003)=some (u,H') from D,zd]at hc;obtain⟨l1,l2⟩:=zaf (es:=[]) (j:=0) (by decide)
  have g:zC v (KP.BN 6000 (val default .empty .empty [])):=by
   intro f g;have g:f∈[Wf]:=g;rw[List.mem_singleton]at g;subst g;refine⟨⟨(by intro b hb;simp only[KT.Qb,mem_cons,mem_nil_iff,or_false]at hb;omega),trivial,trivial⟩,show WFs _ (Zc 0) from l1,fun w P=>?_⟩;rw[l2];exact Calls.mono (show Calls prog 31 #[.string (str KT.Qb),.slice none 0 0] w _ from KT.zwa (@zbt KP.unkK w (zfE P))) fun e w2 hx=>⟨hx.2,hx.1⟩
  have:=je (N:=6003) (σ:=KP.JU 6000 (val default .empty .empty [])) (Jg [Wf] KP.tabs) (by decide) (fun id z h=>Nat.lt_trans (KP.qU id z h) (by decide)) g KP.QC D trivial (w:=w) (zbt Q);refine Calls.mono (show Calls prog 22 #[] w _ from this) fun e w2 hx=>?_;obtain⟨T,k,rfl,g1,X,K,J⟩:=hx;replace hc:zaN u H'=true:=hc;unfold zaN at hc;cases u<;>simp only at hc<;>first|(cases hc;done)|skip
  rename_i b o;rw[zk,Bool.and_eq_true,zu,beq_iff_eq]at hc;obtain⟨rfl,hc⟩:=hc
  cases a:H'.row b with
  | none=>rw[a]at hc;cases hc
  | some r=>
   rw[a,zd]at hc
   cases hh:r.c.get 1 with
   | none=>rw[hh]at hc;cases hc
   | some h=>
    rw[hh,zd]at hc;obtain⟨hb,M,rfl,hc⟩:=Xl hc;rw[zk,Bool.and_eq_true]at hc;obtain⟨O,k2⟩:=hc;obtain⟨i,H⟩:=Option.isSome_iff_exists.1 (show(k b).isSome=true from g1);obtain⟨Y,G,A⟩:=Q8 (lo:=6003) K O H;obtain⟨d,l⟩:=Option.isSome_iff_exists.1 Y.2.1.1;obtain⟨_,L,x⟩:=Q8 (lo:=6003) K k2 l
    have lowγ:(KP.BN 6000 (val default .empty .empty [])).le k:=fun id y C=>by
     have hid:id<6000:=by
      rcases Nat.lt_or_ge id 6000 with h|h
      .exact h
      .rw[KP.YK (by decide) id h]at C;cases C
     rw[X id (by omega)];exact C
    have U:=Yc (R:=default) (s1:=.empty) (s2:=.empty) (es:=[]) 0 (by decide);have h1:=Zn (R:=default) (s1:=.empty) (s2:=.empty) (es:=[]) (by decide);rw[(WFs.mono lowγ _ U).2,show yO 0=yO ([]:List Ent).length from rfl,h1]at L
    have cut:∃c,c<=d.2.2/\zc k (.slice hb 0 1 1 M) = .slice (some ⟨d.1,d.2.1,none⟩) 1 (1+c):=by
     cases M with
     | true=>exact⟨0,zero_le _,by simp[zc,Inj.addr,Inj.blk,Inj.sh,l]⟩
     | false=>exact⟨d.2.2,Nat.le_refl _,by simp[zc,Inj.addr,Inj.blk,Inj.sh,Inj.ext,l]⟩
    obtain⟨c,c1,Z⟩:=cut;refine⟨T,.pointer (some ⟨i.1,i.2.1,none⟩),?_,⟨⟨i,(d.1,d.2.1,c),.slice none 0 0,rfl,?_,AP.zw.less L c1,⟨fun _=>rfl,fun h=>absurd rfl h⟩,I _ (J _ _ A H),(show B d.1 from I _ (J _ _ x l)),fun p n m h=>by cases h⟩,fun e he=>by cases he⟩⟩
    .rw[show zc k (.ptr b 0) = .pointer (some ⟨i.1,i.2.1,none⟩) by simp[zc,Inj.addr,Inj.blk,Inj.sh,H]]
    .simp only[zf]at G;rw[Z]at G;exact G
theorem zpM{R:zy}{v1 v2:Value}(hR:R.Ok)(h1:AtS w v1 R.up)(h2:AtS w v2 R.down):Calls prog 25 #[.agg (R.l1++v1::v2::R.l2).toArray] w fun e w2=>Grown w w2/\∃u1 u2,e = .returned (.agg (R.l1++u1::u2::R.l2).toArray)/\AtS w2 u1 R.up/\AtS w2 u2 R.down:=by
 obtain⟨x1,s1,x⟩:=J2 h1;obtain⟨x2,s2,k2⟩:=J2 h2;have two:Two w R v1 v2 x1 x2 s1 s2:=⟨x,k2⟩
 letI:=unkA x1 x2 s1 s2 [];let i:=zd4 (cnt R.up) (cnt R.down)
 have hc:zk7 (cnt R.up) (cnt R.down)=true:=yk tcr R.up R.down;unfold zk7 at hc
 cases t:qj i (jg i 1000000) 25 [yX (cnt R.up) (cnt R.down)] (ja i 6003) with
 | none=>rw[show qj (zd4 (cnt R.up) (cnt R.down)) (jg (zd4 (cnt R.up) (cnt R.down)) 1000000) 25 [yX (cnt R.up) (cnt R.down)] (ja (zd4 (cnt R.up) (cnt R.down)) 6003)=none from t]at hc;cases hc
 | some p=>
  obtain⟨u,H'⟩:=p;rw[show qj (zd4 (cnt R.up) (cnt R.down)) (jg (zd4 (cnt R.up) (cnt R.down)) 1000000) 25 [yX (cnt R.up) (cnt R.down)] (ja (zd4 (cnt R.up) (cnt R.down)) 6003)=some (u,H') from t,zd]at hc;have f:Fit i:=yT KP.jW KP.ZJ (fun p hp=>by cases hp);obtain⟨L,K⟩:=ZC (es:=[]) hR two;have G:zC i (zJ (KP.JU 6000 (val R s1 s2 []))):=YH (es:=[]) (T:=AP.qV (cnt R.up) (cnt R.down)) hR two
  have c:zZ prog (AP.qV (cnt R.up) (cnt R.down)) w:=by
   have:=Vv (es:=[]) hR two (T:=[]) (@qz (unkA x1 x2 s1 s2 []) _ _);rw[zT,append_nil]at this;exact this
  have v:zD (AP.qV (cnt R.up) (cnt R.down))=true:=by
   rw[show AP.qV (cnt R.up) (cnt R.down)=Go.AEv.qV (cnt R.up) (cnt R.down) from zT _ _];exact AR.zmR _ _
  have:=je (N:=6003) (σ:=KP.JU 6000 (val R s1 s2 [])) f (by decide) (fun id z h=>Nat.lt_trans (KP.qU id z h) (by decide)) G v t ⟨L,trivial⟩ (w:=w) c;have I:(zf (KP.BN 6000 (val R s1 s2 [])) [yX (cnt R.up) (cnt R.down)]).toArray = #[.agg (R.l1++v1::v2::R.l2).toArray]:=by rw[zf,zf,K]
  rw[show zJ (KP.JU 6000 (val R s1 s2 []))=KP.BN 6000 (val R s1 s2 []) from rfl,I]at this;refine this.mono fun e w2 hx=>?_;obtain⟨D,b,rfl,g1,H,C,M⟩:=hx
  have lowγ:(KP.BN 6000 (val R s1 s2 [])).le b:=fun id y m=>by
   have hid:id<6000:=by
    rcases Nat.lt_or_ge id 6000 with h|h
    .exact h
    .rw[KP.YK (by decide) id h]at m;cases m
   rw[H id (by omega)];exact m
  replace hc:zqf (cnt R.up) (cnt R.down) u H'=true:=hc;unfold zqf at hc;cases u<;>simp only at hc<;>first|(cases hc;done)|skip
  rename_i l
  cases A:kY 9 l with
  | none=>rw[A]at hc;cases hc
  | some u=>
   rw[A,zd]at hc
   cases g:kY 10 l with
   | none=>rw[g]at hc;cases hc
   | some d=>
    rw[g,zd,zk,Bool.and_eq_true,zk,Bool.and_eq_true]at hc;obtain⟨c1,J,c3⟩:=hc;obtain rfl:=jC _ _ c3;have g1:WFs b _:=g1;have o:WF b u:=(zV _ _).1 g1 u (by simp);have r:WF b d:=(zV _ _).1 g1 d (by simp)
    have k:zc b (.sym 70) = .string s1:=by
     have:b 70=some (Unk.place 70):=lowγ 70 _ (Qu (by decide));show qe ((b 70).getD (0,0,0))=_;rw[this,getD_some];exact jV s1
    have j:zc b (.sym 71) = .string s2:=by
     have:b 71=some (Unk.place 71):=lowγ 71 _ (Qu (by decide));show qe ((b 71).getD (0,0,0))=_;rw[this,getD_some];exact jV s2
    have a:∀n,n<12->zc b (nf n)=R.at n:=fun n hn=>by rw[(WF.mono lowγ _ (yY (R:=R) (s1:=s1) (s2:=s2) (es:=[]) hn)).2,yZ hn]
    refine⟨D,zc b u,zc b d,?_,zbg x C c1 o k,zbg k2 C J r j⟩;rw[zc];simp only[zf];rw[a 0 (by decide),a 1 (by decide),a 2 (by decide),a 3 (by decide),a 4 (by decide),a 5 (by decide),a 6 (by decide),a 7 (by decide),a 8 (by decide),a 9 (by decide),a 10 (by decide),a 11 (by decide)];rfl
end
end TC
end
section
open Go.Proofs
namespace TC
open TR
open AP (of ol nf yX kC yO Zu rows kept jY Ud Zc zak Qn zeb yP unkA val Two Ji JE Yc Zn ZC Q7 yY yZ kj Q1 zbg Q8 Xl QX yk qT zhW)
open KT (zF)
section
variable{es:List Ent}{w:World}{tv:Value}{B:Nat->Prop}
end
end TC
end
section
open Go Go.Proofs TR
theorem Grown.trans'{a b c:World}(h:Grown a b)(k:Grown b c):Grown a c:=
 ⟨fun i hi=>by rw[k.old i (Nat.lt_of_lt_of_le hi h.size),h.old i hi],Nat.le_trans h.size k.size,k.tape.trans h.tape,k.os.trans h.os,k.output.trans h.output⟩
theorem zE(w:World)(o:Obj):Grown w (w.alloc o):=
 ⟨fun i hi=>by unfold World.alloc;exact getElem?_push_lt hi ▸ (Array.getElem?_eq_getElem hi).symm,by unfold World.alloc;simp,rfl,rfl,rfl⟩
abbrev own(w0:World):Nat->Prop:=fun c=>w0.heap.size<=c
def zjt(Rs:List zy):Prop:=∀j R,Rs[j]?=some R->qZ (Rs.take j) R=0
theorem ziC:zjt []:=fun _ _ h=>by cases h
theorem zjt.snoc{Rs:List zy}{R:zy}(h:zjt Rs)(hR:qZ Rs R=0):zjt (Rs++[R]):=by
 intro j x hx;rcases Nat.lt_or_ge j Rs.length with a|a
 .rw[List.getElem?_append_left a]at hx;rw[take_append_of_le_length (by omega)];exact h j x hx
 .rw[List.getElem?_append_right a]at hx;have b:j-Rs.length=0:=by have:=(List.getElem?_eq_some_iff.1 hx).1;simpa using this
  rw[b]at hx;cases hx;rw[show j=Rs.length by omega,take_append_of_le_length (Nat.le_refl _),take_length];exact hR
structure St(B:Nat->Prop)(w0 w:World)(t want:Value)(es fs:List Ent):Prop where
 g:Grown w0 w
 old:∀c,B c->w0.heap.size<=c
 tr:zU B w t es
 rows:yC w 86 want fs
 low:∀p n m,want = .slice (some p) n m->B p.block
 lists:jo w fs
 same:fs.map (·.1)=es.map (·.1)
 acc:∀e∈fs,RH.Acc e.1
 hist:zjt (fs.map (·.1))
theorem St.grown{B:Nat->Prop}{a w w2:World}{t want:Value}{es b:List Ent}(h:St B a w t want es b)(g:Grown w w2):St B a w2 t want es b:=
 ⟨h.g.trans' g,h.old,Zw g h.tr,VU g h.rows,h.low,(qy.qt g).lists h.lists,h.same,h.acc,h.hist⟩
theorem zjV{B:Nat->Prop}{w w2:World}(k:Zy B w w2){v:Value}{es:List Ent}(h:yC w 86 v es):yC w2 86 v es:=by
 refine⟨h.1,fun hn=>?_⟩;obtain⟨x,e,a⟩:=h.2 hn;refine⟨x,e,@zw.heap unk0 _ _ _ _ _ _ a ?_⟩;obtain⟨arr,fz,h1,_⟩:=a;exact k.1 _ _ _ _ h1 (by decide) (by decide) (by decide)
theorem St.qD{B:Nat->Prop}{a w w2:World}{t want:Value}{es b:List Ent}(h:St B a w t want es b)(k:qy w w2)(k3:Zy B w w2)(d:zU B w2 t es):St B a w2 t want es b:=
 ⟨⟨fun c hc=>by rw[k3.2 c (Nat.lt_of_lt_of_le hc h.g.size) (fun hb=>by have:=h.old c hb;omega),h.g.old c hc],Nat.le_trans h.g.size k.size,k.tape.trans h.g.tape,k.os.trans h.g.os,k.output.trans h.g.output⟩,h.old,d,zjV k3 h.rows,h.low,k.lists h.lists,h.same,h.acc,h.hist⟩
theorem XU{B:Nat->Prop}{w w2:World}{v t:Value}{es f:List Ent}(b:yC w 86 v f)(k:qy w w2)(kw:Vu v w w2)(i:zU B w t es):zU B w2 t es:=by
 have key:∀ {x:Nat×Nat×Nat}{u:TypeId}{vs:List Value},u≠86->zw prog w x u vs->zw prog w2 x u vs:=by
  intro x u vs g h;refine @zw.heap unk0 _ _ _ _ _ _ h (kw _ (zw.lt h) fun p n m e hp=>?_);by_cases c:f=[]
  .rw[b.1 c]at e;cases e
  .obtain⟨y,o,a⟩:=b.2 c;rw[o]at e;cases e;exact zw.ne h a g hp.symm
 obtain⟨⟨x,hd,r,h1,h2,h3,d,l⟩,j⟩:=i;refine⟨⟨x,hd,r,h1,key (by decide) h2,key (by decide) h3,⟨d.1,fun hn=>?_⟩,l⟩,k.lists j⟩;obtain⟨y,e,a⟩:=d.2 hn;exact⟨y,e,key (by decide) a⟩
theorem St.want{B:Nat->Prop}{b w w2:World}{t want:Value}{es a:List Ent}(h:St B b w t want es a)(k:qy w w2)(kw:Vu want w w2)(d:yC w2 86 want a):St B b w2 t want es a:=
 ⟨⟨fun c hc=>by rw[kw c (Nat.lt_of_lt_of_le hc h.g.size) (fun p n m e hp=>by have:=h.old _ (h.low p n m e);omega),h.g.old c hc],Nat.le_trans h.g.size k.size,k.tape.trans h.g.tape,k.os.trans h.g.os,k.output.trans h.g.output⟩,h.old,
  XU h.rows k kw h.tr,d,h.low,k.lists h.lists,h.same,h.acc,h.hist⟩
theorem zjG{w w2:World}(h:Wx w)(g:Grown w w2):Wx w2:=by
 obtain⟨a,h1,h2⟩:=h;letI:=unk0;exact⟨a,h1,fun p hp=>zH.Z4 (h2 p hp) g.old⟩
theorem zcd{s:Sl4}{w w2:World}(h:s.In w)(g:Grown w w2):s.In w2:=by
 intro b o hb a;obtain⟨arr,t,fz,h1,h2⟩:=h b o hb a;exact⟨arr,t,fz,by rw[g.old b (Array.getElem?_eq_some_iff.1 h1).1];exact h1,h2⟩
abbrev zbn(R:zy)(p1 p2:Option Addr)(n1 n2 c1 c2:Nat):Value:=.agg #[.int .i64 R.number,.int .i64 R.version,.string R.tenant,.int .i64 R.session,.string R.action,.string R.path,.int .i64 R.day,.bool R.granted,.int .i64 R.user,.slice p1 n1 c1,.slice p2 n2 c2,.string R.does,.string R.at_,.bool R.deep]
structure Rd(w0 w:World)(t want:Value)(es fs:List Ent)(R:zy)(v1 v2:Value):Prop where
 st:St (own w0) w0 w t want es fs
 ok:R.Ok
 ver:R.version<=4
 up:AtS w v1 R.up
 down:AtS w v2 R.down
theorem Rd.Z4{a w w2:World}{t want:Value}{es b:List Ent}{R:zy}{v1 v2:Value}(h:Rd a w t want es b R v1 v2)(k:qy w w2)(hs:St (own a) a w2 t want es b):Rd a w2 t want es b R v1 v2:=⟨hs,h.ok,h.ver,k.atS h.up,k.atS h.down⟩
theorem Rd.grown{a w w2:World}{t want:Value}{es b:List Ent}{R:zy}{v1 v2:Value}(h:Rd a w t want es b R v1 v2)(g:Grown w w2):Rd a w2 t want es b R v1 v2:=h.Z4 (qy.qt g) (h.st.grown g)
def Box(w:World)(b:Nat)(R:zy)(p1 p2:Option Addr)(n1 n2 c1 c2:Nat):Prop:=zw prog w (b,0,0) 86 (ZB (R,.slice p1 n1 c1,.slice p2 n2 c2))
def zu3(w:World)(b:Nat)(R:zy)(p1 p2:Option Addr)(n1 n2 c1 c2:Nat):Prop:=
 w.cell? ⟨b,0,none⟩=some (.int .i64 R.number)/\w.cell? ⟨b,1,none⟩=some (.int .i64 R.version)/\w.cell? ⟨b,2,none⟩=some (.string R.tenant)/\w.cell? ⟨b,3,none⟩=some (.int .i64 R.session)/\w.cell? ⟨b,4,none⟩=some (.string R.action)/\w.cell? ⟨b,5,none⟩=some (.string R.path) /\
 w.cell? ⟨b,6,none⟩=some (.int .i64 R.day)/\w.cell? ⟨b,7,none⟩=some (.bool R.granted)/\w.cell? ⟨b,8,none⟩=some (.int .i64 R.user)/\w.cell? ⟨b,9,none⟩=some (.slice p1 n1 c1)/\w.cell? ⟨b,10,none⟩=some (.slice p2 n2 c2)/\w.cell? ⟨b,11,none⟩=some (.string R.does) /\
 w.cell? ⟨b,12,none⟩=some (.string R.at_)/\w.cell? ⟨b,13,none⟩=some (.bool R.deep)
theorem Box.cells{w:World}{b:Nat}{R:zy}{c a:Option Addr}{e d c1 f:Nat}(h:Box w b R c a e d c1 f):zu3 w b R c a e d c1 f:=by
 have key:∀j v,(ZB (R,Value.slice c e c1,Value.slice a d f))[j]?=some v->w.cell? ⟨b,j,none⟩=some v:=fun j v g=>by
  have:=TR.cell_of_row h g;rwa[Nat.zero_add]at this
 exact⟨key 0 _ rfl,key 1 _ rfl,key 2 _ rfl,key 3 _ rfl,key 4 _ rfl,key 5 _ rfl,key 6 _ rfl,key 7 _ rfl,key 8 _ rfl,key 9 _ rfl,key 10 _ rfl,key 11 _ rfl,key 12 _ rfl,key 13 _ rfl⟩
end
section
open Go Go.Proofs TR
theorem zp9{w w2:World}{b:Nat}{v:Value}{o:Option ByteArray}(h:UF prog .i64 3 w w2 b v o):AtS w2 v o:=by
 cases o with
 | none=>exact h
 | some s=>
  obtain⟨x,arr,fz,_,hn⟩:=h;exact⟨x,arr,fz,hn.is,hn.row,hn.cap,hn.size,hn.cell,hn.thaw⟩
def zDD(w0:World)(t want:Value)(es fs:List Ent)(e:Ending)(w2:World):Prop:=
 ∃(R:zy) (p1 p2:Option Addr) (n1 n2 c1 c2:Nat),e = .returned (zbn R p1 p2 n1 n2 c1 c2)/\Rd w0 w2 t want es fs R (.slice p1 n1 c1) (.slice p2 n2 c2)
theorem zzE{a:World}(r:Wx a)(x:JT)(hx:∀m,1<=m->m<=8->JT.Ok { x with num:=m })(l:x.u.In a)(hd:x.d.In a){w:World}{k:Nat}(v:k<=7){t want:Value}{es b:List Ent}(H:St (own a) a w t want es b) :
  Calls prog 24 #[.agg #[.int .u8 (x.ten:Nat),.int .u8 (x.ver:Nat),.int .u8 (x.day:Nat),.int .u8 (x.odd:Nat),.int .u8 (x.rs:Nat),.int .u8 (x.ra:Nat),.int .u8 (x.rp:Nat),.bool x.granted,.bool x.right,
   .int .u8 (x.user:Nat),.int .u8 (x.perm:Nat),.slice x.u.p x.u.n x.u.c,.slice x.d.p x.d.n x.d.c,.bool x.why],.int .i64 ((k:Int)+1),.slice none 0 0] w (zDD a t want es b):=by
 obtain⟨R,⟨h1,h2⟩,hc⟩:=zn0 { x with num:=k+1 } (hx _ (by omega) (by omega));refine Calls.mono (hc w (zjG r H.g) (zcd l H.g) (zcd hd H.g)) fun e w2 hp=>?_;obtain⟨g,v1,v2,z,y,_,rfl,o1,o2⟩:=hp;have h:=zp9 o1;have f:=zp9 o2;obtain⟨j,c1,rfl⟩:=h.slice;obtain⟨i,o,rfl⟩:=f.slice;exact⟨R,j,i,_,_,c1,o,rfl,H.grown g,h1,h2,h,f⟩
def zDx(w0:World)(t want:Value)(es fs:List Ent)(R:zy)(b:Nat)(p1 p2:Option Addr)(n1 n2 c1 c2:Nat)(e:Ending)(w2:World):Prop:=
 ∃(q1 q2:Option Addr) (m1 m2 d1 d2:Nat),e = .returned (zbn R q1 q2 m1 m2 d1 d2)/\(Rd w0 w2 t want es fs R (.slice p1 n1 c1) (.slice p2 n2 c2)/\Box w2 b R p1 p2 n1 n2 c1 c2)/\AtS w2 (.slice q1 m1 d1) R.up/\AtS w2 (.slice q2 m2 d2) R.down
theorem zyj{i w:World}{t want:Value}{es j:List Ent}{R:zy}(b:Nat){c a:Option Addr}{f d c1 h:Nat}(H:Rd i w t want es j R (.slice c f c1) (.slice a d h))(hb:Box w b R c a f d c1 h) :
  Calls prog 25 #[zbn R c a f d c1 h] w (zDx i t want es j R b c a f d c1 h):=by
 refine Calls.mono (TC.zpM H.ok H.up H.down) fun e w2 hp=>?_;obtain⟨g,v1,v2,rfl,l,k⟩:=hp;obtain⟨q1,d1,rfl⟩:=l.slice;obtain⟨q2,d2,rfl⟩:=k.slice;exact⟨q1,q2,_,_,d1,d2,rfl,⟨H.grown g,kU g hb⟩,l,k⟩
theorem zfn{B:Nat->Prop}{w w2:World}(k:Zy B w w2){b:Nat}{R:zy}{c a:Option Addr}{e d c1 f:Nat}(h:Box w b R c a e d c1 f):Box w2 b R c a e d c1 f:=by
 refine @zw.heap unk0 _ _ _ _ _ _ h ?_;obtain⟨arr,fz,h1,_⟩:=h;exact k.1 _ _ _ _ h1 (by decide) (by decide) (by decide)
theorem zmX(w:World)(R:zy)(b a:Option Addr)(d c c1 e:Nat):Box (w.alloc (Obj.cells #[.int .i64 R.number,.int .i64 R.version,.string R.tenant,.int .i64 R.session,.string R.action,.string R.path,.int .i64 R.day,.bool R.granted,.int .i64 R.user,.slice b d c1,.slice a c e,.string R.does,.string R.at_,.bool R.deep] 86)) w.heap.size R b a d c c1 e:=by
 refine⟨_,(0,0),heap_alloc_new w _,(by rw[Nat.zero_mul];exact Nat.le_refl 14),fun i _ h=>by omega,Nat.dvd_zero _,fun j f=>?_⟩;rw[Nat.zero_add];show(ZB (R,Value.slice b d c1,Value.slice a c e)).toArray[j]?=_;rw[getElem?_toArray]
theorem zrG{a:Nat}(h:a≠0):(((a:Nat):Int) != 0)=true/\(((a:Nat):Int)==0)=false:=by simp;omega
def zDJ(w0:World)(want:Value)(t:Value)(es fs:List Ent)(R:zy)(b:Nat)(p1 p2:Option Addr)(n1 n2 c1 c2:Nat)(e:Ending)(w2:World):Prop:=
 (∃er:Nat,(((er:Nat):Int) != 0)=true/\(((er:Nat):Int)==0)=false/\qZ (es.map (·.1)) R=er/\e = .returned (.tuple #[.pointer none,.int .i64 (er:Nat)])/\Rd w0 w2 t want es fs R (.slice p1 n1 c1) (.slice p2 n2 c2)/\Box w2 b R p1 p2 n1 n2 c1 c2) \/
 (∃(a:Addr) (u1 u2:Value),qZ (es.map (·.1)) R=0/\e = .returned (.tuple #[.pointer (some a),.int .i64 0])/\Rd w0 w2 t want es fs R (.slice p1 n1 c1) (.slice p2 n2 c2)/\Box w2 b R p1 p2 n1 n2 c1 c2/\zU (own w0) w2 (.pointer (some a)) (es++[(R,u1,u2)]))
theorem zA3{d w:World}(A:Z6 d){t want:Value}{es o:List Ent}{R:zy}(b:Nat){h f q1 q2:Option Addr}{j i c1 n m l d1 d2:Nat}(few:es.length<=8)(H:Rd d w t want es o R (.slice h j c1) (.slice f i n))(hb:Box w b R h f j i c1 n)
  (h1:AtS w (.slice q1 m d1) R.up) (h2:AtS w (.slice q2 l d2) R.down):Calls prog 12 #[t,zbn R q1 q2 m l d1 d2] w (zDJ d want t es o R b h f j i c1 n):=by
 refine Calls.mono (AP.zbm (R:=R) (v1:=.slice q1 m d1) (v2:=.slice q2 l d2) ⟨H.ok,few,H.st.tr,h1,h2,A.Z4 (qy.qt H.st.g),fun c hc=>Nat.le_trans H.st.g.size hc⟩) fun e w2 hp=>?_;obtain⟨k,k3,u,t2,rfl,g1,v⟩:=hp;have p:=H.Z4 k (H.st.qD k k3 u);by_cases he:qZ (es.map (·.1)) R=0
 .obtain⟨u1,u2,a⟩:=v he;obtain⟨⟨x,hd,r,rfl,_⟩,_⟩:=id a;exact .inr ⟨_,u1,u2,he,by rw[he];rfl,p,zfn k3 hb,a⟩
 .rw[g1 he];obtain⟨z,y⟩:=zrG he;exact .inl ⟨_,z,y,rfl,rfl,p,zfn k3 hb⟩
def zBg(w0:World)(er:Int)(t want:Value)(es fs:List Ent)(R:zy)(b:Nat)(p1 p2:Option Addr)(n1 n2 c1 c2:Nat)(S:World->Prop)(e:Ending)(w2:World):Prop:=
 e = .returned (.int .i64 er)/\Rd w0 w2 t want es fs R (.slice p1 n1 c1) (.slice p2 n2 c2)/\Box w2 b R p1 p2 n1 n2 c1 c2/\S w2
theorem zoF{w w2:World}{want:Value}{R:zy}{b:Nat}{d c:Option Addr}{f e c1 g:Nat}(hb:Box w b R d c f e c1 g)(a:∀p n m,want = .slice (some p) n m->p.block≠b)(k:Vu want w w2):Box w2 b R d c f e c1 g:=
 @zw.heap unk0 _ _ _ _ _ _ hb (k _ (zw.lt hb) a)
theorem zvG{i w:World}{t want t2:Value}{es j g:List Ent}{R:zy}(o:Nat)(b:Nat){c a:Option Addr}{f d c1 h:Nat}(few:es.length<=8)(l:∀p n m,want = .slice (some p) n m->p.block≠b)(H:Rd i w t want es j R (.slice c f c1) (.slice a d h))
  (he:qZ (es.map (·.1)) R=o) (hb:Box w b R c a f d c1 h) (ht:zU (own i) w t2 g) :
  Calls prog 26 #[want,zbn R c a f d c1 h] w (zBg i o t want es j R b c a f d c1 h fun w2=>zU (own i) w2 t2 g):=by
 have hl:j.length=es.length:=by have:=congrArg List.length H.st.same;simpa using this
 refine Calls.mono (AR.zpK (R:=R) (v1:=.slice c f c1) (v2:=.slice a d h) (es:=j) ⟨H.ok,by omega,H.st.rows,H.st.lists,H.up,H.down⟩) fun e w2 hp=>?_;obtain⟨k,kw,r,rfl⟩:=hp;rw[H.st.same,he];exact⟨rfl,H.Z4 k (H.st.want k kw r),zoF hb l kw,XU H.st.rows k kw ht⟩
theorem zwt{c w : World}{t want t2 : Value}{es j a : List Ent}{R : zy}(b : Nat){e d : Option Addr}{g f c1 h : Nat}(few : es.length <= 8)(i : ∀p n m, want = .slice (some p) n m -> p.block ≠ b)(H : Rd c w t want es j R (.slice e g c1) (.slice d f h))
    (he : qZ (es.map (·.1)) R = 0) (hb : Box w b R e d g f c1 h) (ht : zU (own c) w t2 a) :
    Calls prog 26 #[want, zbn R e d g f c1 h] w (zBg c 0 t want es j R b e d g f c1 h fun w2 => zU (own c) w2 t2 a) := zvG 0 b few i H he hb ht
theorem zsK{c w:World}{t want v1 v2:Value}{es b:List Ent}{R:zy}(H:Rd c w t want es b R v1 v2):∀p n m,want = .slice (some p) n m->p.block≠w.heap.size:=by
 intro p n m e hp;by_cases a:b=[]
 .rw[H.st.rows.1 a]at e;cases e
 .obtain⟨y,f,d⟩:=H.st.rows.2 a;rw[f]at e;cases e;have:=zw.lt d;have hp:y.1=w.heap.size:=hp;omega
theorem zg5{w w2:World}{v:Value}{f:List Ent}(b:yC w 86 v f)(h:Y1 v w w2):qy w w2:=by
 refine⟨fun c arr t fz hc _ _ _ i=>h.Z4 c (Array.getElem?_eq_some_iff.1 hc).1 fun p n m e hp=>?_,h.size,h.tape,h.os,h.output⟩;by_cases d:f=[]
 .rw[b.1 d]at e;cases e
 .obtain⟨y,k,g,j,a,_⟩:=b.2 d;rw[k]at e;cases e;have hp:y.1=c:=hp;rw[hp,hc]at a;simp only[Option.some.injEq,Obj.cells.injEq]at a;exact i a.2.1
theorem St.push{b w w2:World}{t want t2:Value}{es a:List Ent}{R:zy}{v1 v2 u1 u2:Value}{q:Addr}{c:Nat}(H:Rd b w t want es a R v1 v2)(he:qZ (es.map (·.1)) R=0)(d:zU (own b) w t2 (es++[(R,u1,u2)]))
  (hr:yC w2 86 (.slice (some q) (a.length+1) c) (a++[(R,v1,v2)])) (hq:w.heap.size<=q.block\/∃p n m,want = .slice (some p) n m/\p.block=q.block) (h:Y1 want w w2) :
  St (own b) b w2 t2 (.slice (some q) (a.length+1) c) (es++[(R,u1,u2)]) (a++[(R,v1,v2)]):=by
 have k:=zg5 H.st.rows h;obtain⟨f,_,hd,_⟩:=ziQ H.ok he
 refine⟨⟨fun c hc=>by rw[h.Z4 c (Nat.lt_of_lt_of_le hc H.st.g.size) (fun p n m e hp=>by have:=H.st.old _ (H.st.low p n m e);omega),H.st.g.old c hc],Nat.le_trans H.st.g.size k.size,k.tape.trans H.st.g.tape,k.os.trans H.st.g.os,k.output.trans H.st.g.output⟩,H.st.old,
  XU H.st.rows k h.Z4 d,hr,fun p n m e=>?_,fun e hm=>?_,?_,fun e hm=>?_,by rw[List.map_append];exact H.st.hist.snoc (by rw[H.st.same];exact he)⟩
 .cases e;rcases hq with hq|⟨p,n,m,e,hp⟩
  .exact Nat.le_trans H.st.g.size hq
  .rw[<- hp];exact H.st.low p n m e
 .rcases List.mem_append.1 hm with hm|hm
  .exact k.lists H.st.lists e hm
  .rw[List.mem_singleton]at hm;subst hm;exact⟨k.atS H.up,k.atS H.down⟩
 .rw[List.map_append,List.map_append,H.st.same];rfl
 .rcases List.mem_append.1 hm with hm|hm
  .exact H.st.acc e hm
  .rw[List.mem_singleton]at hm;subst hm;exact⟨H.ok,f,hd,H.ver⟩
end
section
open Go.Proofs
noncomputable def zxs:Fact:=.call 6 [] (.bool true)
theorem zbN:zD tabs=true:=by kernel_rfl
theorem zyq{i:Nat}(hi:i<6):QO i=true:=by
 have:i=0\/i=1\/i=2\/i=3\/i=4\/i=5:=by omega
 rcases this with rfl|rfl|rfl|rfl|rfl|rfl
 .exact zyw
 .exact zyv
 .exact zyu
 .exact zyt
 .exact zys
 .exact zyr
theorem zyp{p:List Nat×List Nat}(hp:p∈zp4):zgv p=true:=by
 obtain⟨i,hi,e⟩:=List.getElem_of_mem hp;have h:=zyq (i:=i) hi;unfold QO at h;rw[List.getElem?_eq_getElem hi,e]at h;exact h
section
variable[Unk]{val:Nat->Value}
theorem zn7:∀id,300<=id->Bm val id=none:=by
 intro id h
 cases hx:Bm val id with
 | none=>rfl
 | some x=>
  have hx:zJ (Yz val) id=some x:=hx;unfold zJ at hx;rw[if_neg (by omega)]at hx;have:=Zp id x hx;omega
theorem zfa{l:List (Nat×zo)}:zC (XI [] l) (Bm val):=by
 intro f a;cases(show f∈([]:List Fact) from a)
theorem zeH:∀f∈VJ,zq prog tabs (Bm val) f:=by
 intro f a;obtain⟨p,hp,rfl⟩:=List.mem_map.1 a;have h:=zyp hp;unfold zgv at h;exact zkS (E:=E0) (Jg [] tabs) (β0:=Bm val) zfa (fun _ _ h=>h) zn7 zbN h
theorem zqx:zq prog tabs (Bm val) Wf:=by
 have h:=zBK;unfold JL at h;exact zfc (E:=E0) (Jg [] tabs) (by decide) Zp zfa zbN h trivial
theorem zjC:zq prog tabs (Bm val) zfz:=by
 have h:=zwb;unfold ziY at h;exact zfc (E:=zju VJ) (Jg VJ tabs) (by decide) Zp zeH zbN h trivial
theorem zlm:zq prog tabs (Bm val) zxs:=by
 have h:=zxt;unfold zi0 at h;refine zoj (E:=zju (VJ++[Wf,zfz])) (Jg _ tabs) (by decide) Zp (fun f a=>?_) zbN h trivial trivial;rcases List.mem_append.1 (show f∈VJ++[Wf,zfz] from a) with a|a
 .exact zeH f a
 .simp only[mem_cons,mem_nil_iff,or_false]at a;rcases a with rfl|rfl
  .exact zqx
  .exact zjC
end
theorem zln{w:World}(h:Wx w):Calls prog 6 #[] w fun e w2=>e = .returned (.bool true)/\Grown w w2:=by
 letI:=unk0;have:=zlm (val:=fun _=>.int .i64 0);obtain⟨_,_,h2⟩:=this;exact(h2 w h).mono fun e w2 hx=>hx
end
section
open Go Go.Proofs TR
open KT (zF)
theorem under29:Tryz.prog.underlying 29=some (.array 32 5):=by kernel_rfl
theorem under5:Tryz.prog.underlying 5=some (.int .u8):=by kernel_rfl
theorem zBI(w:World):(sizeOf 5).run prog w = .ok 1 w:=by
 obtain⟨i,hi⟩:∃i,Tryz.prog.info? 5=some i:=Option.isSome_iff_exists.1 (by kernel_rfl);have b:(Tryz.prog.info? 5).map (·.size)=some 1:=by kernel_rfl
 rw[hi]at b;have b:i.size=1:=Option.some.inj b;simp[sizeOf,typeInfo,hi,b]
theorem zi4{f:Nat->Nat}(b:∀i,f i<256):zF 32 f=((List.range 32).map fun i=>UInt8.ofNat (f i)).map Extern.Stop.cell:=by
 unfold zF;rw[List.map_map];refine List.map_congr_left fun i _=>?_;show Value.int .u8 (f i:Nat) = .int .u8 ((UInt8.ofNat (f i)).toNat:Nat);rw[UInt8.toNat_ofNat',mod_eq_of_lt (b i)]
theorem zCp{f:Nat->Nat}(b:∀i,f i<256)(w:World)(d:Nat):(Op.equalIn (d+2) 29 (.agg (zF 32 f).toArray) (.agg (zF 32 f).toArray)).run prog w = .ok true w:=by
 rw[zi4 b,run_equalIn_bytes w d 29 5 32 under29 under5 zBI _ _ (by simp) (by simp)];simp
theorem zrQ{cs:List Value}{Rs:List zy}(b:cs=zF 32 (qN Rs)):∀w,(Op.equalIn 10000 29 (.agg cs.toArray) (.agg cs.toArray)).run prog w = .ok true w:=fun w=>by
 rw[b];exact zCp (fun i=>AP.QX Rs i) w 9998
theorem zrj{f:Nat->Nat}{cs:List Value}(b:cs=zF 32 f):(Tryz.prog.info? 29).map (·.size)=some cs.length:=by
 subst b;have k:(Tryz.prog.info? 29).map (·.size)=some 32:=by kernel_rfl
 rw[k,KT.kH]
structure Lw(B:Nat->Prop)(w0 w:World)(t want:Value)(es fs:List Ent)(b:Nat)(cs:List Value):Prop where
 st:St B w0 w t want es fs
 box:zw prog w (b,0,0) 29 cs
 nb:¬B b
theorem JH(w:World):Grown w w.drew:=⟨fun _ _=>rfl,Nat.le_refl _,rfl,rfl,rfl⟩
section
variable{B:Nat->Prop}{w0 w:World}{want:Value}{a:Addr}{es fs:List Ent}{cs:List Value}
theorem zcg{t:Value}(H:St B w0 w t want es fs):fs.length=es.length:=by have:=congrArg List.length H.same;simpa using this
end
end
section
open Go Go.Proofs TR
namespace RD
def In(w:World)(p:Option Addr)(L:List Nat):Prop:=(∀b∈L,b<256)/\(L≠[]->∃b o,p=some ⟨b,o,none⟩/\∀i x,L[i]?=some x->w.cell? ⟨b,o+i,none⟩=some (.int .u8 (x:Nat)))
def num:Nat->Nat->List Nat->Option (Nat×Nat)
 | _,_,[]=>none
 | v,k,b::l=>if(k=0/\b=128)\/144115188075855871<v then none else if b<128 then some (v*128+b % 128,k+1) else num (v*128+b % 128) (k+1) l
theorem Xf:∀(l:List Nat) (v k:Nat) {r:Nat×Nat},num v k l=some r->k<r.2/\r.2<=k+l.length
 | [],_,_,_,h=>by cases h
 | b::l,v,k,r,h=>by
  unfold num at h;split at h
  .cases h
  .split at h
   .cases h;exact⟨lt_succ_self k,by show k+1<=k+(l.length+1);omega⟩
   .have:=Xf l _ _ h;exact⟨by omega,by show r.2<=k+(l.length+1);omega⟩
theorem zcz(v b:Nat):(v*128) ||| (b % 128)=v*128+b % 128:=by
 have h:b % 128<2 ^ 7:=mod_lt _ (by decide);have:=shiftLeft_add_eq_or_of_lt h v;rw[Nat.shiftLeft_eq]at this;exact this.symm
theorem zqq{v k x:Nat}{l:List Nat}{g e bv f:Bool}(d:((k:Int)==0)=g)(a:((x:Int)==128)=e)(b:decide ((144115188075855871:Int)<(v:Int))=bv)(c:decide ((x:Int)<128)=f) :
  num v k (x::l)=if(g&&e)||bv then none else if f then some (v*128+x % 128,k+1) else num (v*128+x % 128) (k+1) l:=by
 have m:(k=0↔g=true):=by rw[<- d];simp
 have j:(x=128↔e=true):=by rw[<- a,beq_iff_eq];omega
 have i:(144115188075855871<v↔bv=true):=by rw[<- b,decide_eq_true_eq];omega
 have h:(x<128↔f=true):=by rw[<- c,decide_eq_true_eq];omega
 rw[num.eq_2];simp only[m,j,i,h,Bool.or_eq_true,Bool.and_eq_true]
theorem wraps_u8(n:Int)(b:0<=n)(a:n<2 ^ 8):IntKind.u8.wrap n=n:=by
 have:IntKind.u8.wrap n=n % 256:=by simp[IntKind.wrap,IntKind.bits,IntKind.signed]
 rw[this];omega
theorem zve{v x:Nat}(hv:v<=144115188075855871)(hx:x<256):bits .or .u64 (IntKind.u64.wrap ((v:Int)*128)) (IntKind.u64.wrap (bits .and .u8 (x:Int) 127))=((v*128+x % 128:Nat):Int):=by
 have h1:bits .and .u8 (x:Int) 127=((x % 128:Nat):Int):=by
  have:=bits_mask .u8 8 (by decide) wraps_u8 7 (by decide) (x:Int) (by omega) (by omega);have b:((2:Int) ^ 7-1)=127:=by decide
  have a:((2:Int) ^ 7)=128:=by decide
  rw[b,a]at this;rw[this];omega
 rw[h1,u64_in _ (by omega),u64_in _ (by omega)];have:=bits_or_u64_nat (v*128) (x % 128) (by omega) (by omega);rw[zcz]at this;rw[<- this];rfl
end RD
end
section
open Go Go.Proofs TR
section
variable{B:Nat->Prop}{w0 w:World}{want:Value}{a:Addr}{es fs:List Ent}
end
end
section
open Go Go.Proofs TR
open KT (zF)
theorem zjD{B:Nat->Prop}{w:World}{a:Addr}{es:List Ent}(h:zU B w (.pointer (some a)) es):∃p c,w.cell? a=some (.slice p es.length c):=by
 obtain⟨⟨x,hd,r,h1,h2,h3,b,_⟩,_⟩:=h;have d:a=⟨x.1,x.2.1,none⟩:=by cases h1;rfl
 have hc:=TR.cell_of_row h2 (j:=0) rfl;subst d;by_cases hn:es=[]
 .rw[b.1 hn]at hc;subst hn;exact⟨_,_,hc⟩
 .obtain⟨y,e,_⟩:=b.2 hn;rw[e]at hc;exact⟨_,_,hc⟩
theorem zy2{B:Nat->Prop}{w:World}{a:Addr}{es:List Ent}(h:zU B w (.pointer (some a)) es):Calls prog 13 #[.pointer (some a)] w fun e w2=>e = .returned (.int .i64 (es.length:Nat))/\w2=w:=by
 obtain⟨p,c,hc⟩:=zjD h;clear h;go_enter func13,ntmps13
 go_wp2
 go_ret
 exact⟨rfl,rfl⟩
end
end Go.AEv
