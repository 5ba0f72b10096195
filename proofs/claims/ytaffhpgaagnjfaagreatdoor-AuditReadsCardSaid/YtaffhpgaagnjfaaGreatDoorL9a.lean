/- Trails: L9a. Conditions: each theorem's. -/
import Derived.Test.YtaffhpgaagnjfaaGreatDoorH8x0
import Derived.Great.FillDense
import Derived.Deep.CutRange
set_option linter.all false
open Nat Go.World Go.Proofs.Tryz
open Go.Proofs
set_option maxHeartbeats 4000000
set_option maxRecDepth 100000
namespace Go.AEv
variable{b c hb hc lo m n:Nat}{cs us:Ec}{f:Ek}{p:Ed}{t:Eg}{u w w2:Ea}{z:Eh}
open Go
open Go.AuditPlain(zm zT hi qs zig numbers)
open KT(zB)
open KW(JZ jA iw J9 kj)
open NV(QG Bp jn)
open RD(recAt)
open KQ(jR ky qB qN)
section
open TR
open Go.AuditPlain(put qf)
open RD(In)
namespace GT
def sx(s:Ee)(h:s.size<=1000):(zm (zG s)).length<=1011:=by
 have:=KW.lN (M:=zG s) (by rw[zR];omega);rw[zR]at this;omega
def sO{o:En}(h:qj o<=63):(numbers (zI o)).length<=704:=by
 have hb:∀y∈zI o,y<256:=by
  cases o with
  | none=>intro y a;cases a
  | some s=>exact @ZF unk0 s
 unfold numbers;rw[Lm];have h1:=jA (v:=(zI o).length) (by have:(zI o).length<=63:=h;omega);have h2:=KW.VZ (l:=zI o) λy a=>by have:=hb y a;omega
 have:(zI o).length<=63:=h;omega
def Ck{R:zy}(h:JZ R):0<R.qC.bytes.length/\R.qC.bytes.length<=60000:=by
 refine⟨AV.2 (RD.X9 R),?_⟩;have m:=jA (v:=R.number.toNat) (by have:=h.number;omega);have l:=jA (v:=R.version.toNat) (by have:=h.version;omega);have k:=sx R.tenant h.tenant;have j:(qs R.session).length<=11:=jA (by unfold zig;have:=h.session;split<;>omega);have i:=sx R.action h.action;have g:=sx R.path h.path;have f:=jA (v:=R.day.toNat) (by have:=h.day;omega);have e:=jA (v:=R.user.toNat) (by have:=h.user;omega);have d:=sO h.up;have c:=sO h.down;have b:=sx R.does h.does;have a:=sx R.at_ h.at_;rw[<- KW.Db R];simp only[Lm,List.length_nil,Ya];omega
def kF(f:Ek):List Nat:=(List.range 32).map f
def dH(f:Ek):(kF f).length=32:=by unfold kF;rw[Ls,As]
def PR{o:Nat}(e:∀i,f i<256)(a:cs=zB 32 f)(h:w.rangeAt b o cs):In w (some ⟨b,o,none⟩) (kF f):=by
 refine⟨λy c=>?_,λ_=>⟨b,o,rfl,λi x hi=>h i _ ?_⟩⟩
 .unfold kF at c;obtain⟨i,_,rfl⟩:=Lv.1 c;exact e i
 .rw[a];unfold kF at hi;unfold zB;rw[Lw]at hi ⊢;obtain⟨k,d,rfl⟩:=LU.1 hi;rw[d];rfl
def KV{W:Ea}{t k:Nat}{R:zy}(c:JZ R)(e:∀i,f i<256)(b:cs=zB 32 f)(h:w.rangeAt t 0 cs)(d:t<w.heap.size)(hi:In w (some ⟨n,m,none⟩) R.qC.bytes)(g1:Grown w u)
  (g:Grown (u.alloc (.cells #[.slice (some ⟨t,0,none⟩) 32 32,.slice (some ⟨n,m,none⟩) R.qC.bytes.length k] 51)) W):iw W.heap.size W u.heap.size 32 R.qC.bytes.length k ⟨t,0,none⟩ ⟨n,m,none⟩ (kF f) R.qC.bytes:=by
 have j:=zc u (.cells #[.slice (some ⟨t,0,none⟩) 32 32,.slice (some ⟨n,m,none⟩) R.qC.bytes.length k] 51);have a:=(g1.trans' j).trans' g;have h1:=PR e b h;exact⟨RD.zz (NV.jn u rfl) g,RD.zz (NV.jn u rfl) g,RD.ym h1 a,RD.ym hi a,dH f,rfl,(Ck c).1,(Ck c).2,LK (by unfold World.alloc;simp) g.size,LK d a.size,LK (RD.tM hi (RD.X9 R)) a.size⟩
def zcM{W:Ea}{t k:Nat}{R:zy}(d:JZ R)(e:∀i,f i<256)(b:cs=zB 32 f)(h:w.rangeAt t 0 cs)(c:t<w.heap.size)(hi:In w (some ⟨n,m,none⟩) R.qC.bytes){a:Obj}
  (g:Grown ((w.alloc a).alloc (.cells #[.slice (some ⟨t,0,none⟩) 32 32,.slice (some ⟨n,m,none⟩) R.qC.bytes.length k] 51)) W):iw W.heap.size W (w.heap.size+1) 32 R.qC.bytes.length k ⟨t,0,none⟩ ⟨n,m,none⟩ (kF f) R.qC.bytes:=by
 have:=KV d e b h c hi (zc w a) g;rwa[show(w.alloc a).heap.size=w.heap.size+1 by unfold World.alloc;simp]at this
def nA{W:Ea}{T:Nat}{a:Ec}(D:KQ.DAt W T)(b:a=zB 32 f):a.length=32/\∃d,(storeCells ⟨T,0,none⟩ a 0).run prog W = .ok () d/\d.rangeAt T 0 a/\KQ.jR (· = T) W d:=by
 have hl:a.length=32:=by rw[b,KT.qT]
 refine⟨hl,_,run_storeCells_cells (P:=prog) T 0 a 0 W (λj c=>?_) (λj c=>?_) (λv hv=>?_),?_,KQ.ky _ _ _ _⟩
 .exact(D.cell (j:=0+0+j) I).1
 .exact(D.cell (j:=0+0+j) I).2
 .rw[b]at hv;unfold zB at hv;obtain⟨i,_,rfl⟩:=Lv.1 hv;rfl
 .obtain⟨h,_,arr,fz,h1,h2,_⟩:=D;have h2:0+(zB 32 h).length+0*qS prog 29<=arr.size:=h2;rw[KT.qT]at h2;obtain⟨e,g1,k,g,_⟩:=jl T a 0 W arr 29 fz h1 I;intro j v c;have:=g j (LL.1 c).1;rw[c]at this;unfold World.cell?;rw[show 0+0=0 from rfl,g1];exact this
def BG{x:Prop}(_:x){s:Ee}{q c1 n2 c2:Nat}{b a:Addr}{M1 M2:Eb}(t:kG w)(h:iw w.heap.size w q c1 n2 c2 b a M1 M2)(hs:s.size<=1000):Calls prog 31 #[.string s,.slice (some ⟨q,0,none⟩) 2 c] w (KQ.Hv w):=KW.Su t h hs
def Cj:(⟨#[114,101,99,111,114,100]⟩:ByteArray).size<=1000:=by decide
end GT
end
section
open TR
namespace GT
def IY(w:Ea){st et:Eg}{sz:Nat}(T:Ty1 st et sz)(ty:Eg){v:Ei}{c0:Nat}{ad:Addr}{vs:Ec}(a:yq et sz lo w v n vs)(few:n+m<=100000)(hm:0<m)(hlo:lo<=w.heap.size)(hu:us.length=m*sz)(hc:∀j u,us[j]?=some u->w.cell? (ad.add j)=some u)(p:∀u∈us,u.oneCell'=true) :
  ∃d w',(Builtin.append_ #[st,st] ty #[v,.slice (some ad) m c0]).run prog w = .ok d w'/\yq et sz lo w' d (n+m) (vs++us)/\(∃q c,d = .slice (some q) (n+m) c)/\Je v w w':=by
 obtain⟨i,z,hi,H,k2,hz,hzs⟩:=T.inf;have hb2:(n+m)*i.bytes<=140737488355328:=Lj (Nat.mul_le_mul few k2) C;have hb1:n+m<=maxLen:=by unfold maxLen;omega
 have hlen:(vs++us).length=(n+m)*sz:=by rw[Lm,a.len,hu,Nat.add_mul]
 have grown:∀d w',w'.ownsRow w.heap.size et sz d (n+m) (vs++us)->w.grownBy w' none->yq et sz lo w' d (n+m) (vs++us)/\(∃q c,d = .slice (some q) (n+m) c)/\Je v w w':=by
  intro d w' ho g;obtain⟨h1,h2⟩:=nU T.ts hlen I hlo ho;exact⟨h1,h2,⟨λc hc _=>g.block c hc Oc,g.size,g.tape,g.os,g.output⟩⟩
 rcases a.ex with⟨rfl,rfl⟩|⟨y,rfl,l,hlo2⟩
 .have hv:vs=[]:=Ax (by rw[a.len,Nat.zero_mul]);subst hv;obtain⟨d,w',b,Q,r2,_⟩:=run_append_own (P:=prog) w w.heap.size st ty et i z sz i.bytes T.u hi hz H rfl hzs T.pos (.slice none 0 0) 0 [] (ownsRow_nil w _ et sz) ad m c0 us hu hc p hb1 hb2 (Lh _);exact⟨d,w',b,grown d w' Q r2⟩
 .have t:=l;obtain⟨arr,fz,Q,r2,r3,r4,r5⟩:=t;rw[a.len,T.ts]at r2;have hold:∀(j:Nat) (u:Ei),vs[j]?=some u->w.cell? ⟨y.1,y.2.1+j,none⟩=some u:=λj u k=>TR.cell_of_row l k;by_cases hr:n+m<=n+y.2.2
  .have x:y.2.1+n*sz+m*sz<=arr.size:=by
    have:m*sz<=y.2.2*sz:=mul_le_mul_right _ I;omega
   have f:∀j,j<us.length->(w.cell? ⟨y.1,y.2.1+n*sz+j,none⟩).isSome=true/\w.frozen? ⟨y.1,y.2.1+n*sz+j,none⟩=false:=λj k=>by
    have hlt:y.2.1+n*sz+j<arr.size:=by omega
    refine⟨?_,?_⟩
    .unfold World.cell?;rw[Q];show(arr[y.2.1+n*sz+j]?).isSome=true;rw[Av hlt];rfl
    .unfold World.frozen?;rw[Q];have:=r3 _ hlt;show(decide (fz.1<=y.2.1+n*sz+j)&&decide (y.2.1+n*sz+j<fz.2))=false;rw[AG,LH,LH];omega
   have hsz:y.2.1+n*sz+us.length<=arr.size:=by rw[hu];exact x
   obtain⟨r,g1,g2,g3,g4⟩:=jl y.1 us (y.2.1+n*sz) w arr et fz Q hsz;have b:=run_append_room_cells (P:=prog) w st ty et i T.u hi y.1 y.2.1 n (n+y.2.2) ad m c0 us (by rw[H];exact hu) hc p hr (λj k=>by rw[H];exact(f j k).1) (λj k=>by rw[H];exact(f j k).2);rw[H]at b;refine⟨_,_,b,⟨hlen,.inr ⟨(y.1,y.2.1,y.2.2-m),?_,⟨r,fz,g1,?_,λi hi=>r3 i I,r4,λj k=>?_⟩,hlo2⟩⟩,⟨_,_,rfl⟩,⟨λc hc hne=>?_,?_,kz _ _ _ _,?_,?_⟩⟩
   .rw[show n+m+(y.2.2-m)=n+y.2.2 by omega]
   .rw[hlen,T.ts,g2];show y.2.1+(n+m)*sz+(y.2.2-m)*sz<=arr.size;rw[Nat.sub_mul,Nat.add_mul];have:m*sz<=y.2.2*sz:=mul_le_mul_right _ I;omega
   .show r[y.2.1+j]?=_;rcases LD j vs.length with h|h
    .rw[Ao h,g4 _ (by rw[a.len]at h;omega)];exact r5 j h
    .rw[Aj h];rw[Lm]at k;have:=g3 (j-vs.length) I;rw[<- a.len,show y.2.1+vs.length+(j-vs.length)=y.2.1+j by omega]at this;exact this
   .refine heap_setCells_other w _ _ _ hc λe=>hne _ _ _ rfl e.symm
   .rw[kA];exact Lh _
   .exact os_setCells _ _ _ _
   .exact output_setCells _ _ _ _
  .obtain⟨d,w',b,q1,q2⟩:=run_append_arg_grows (P:=prog) w st ty et i z sz i.bytes T.u hi hz H rfl hzs T.pos ⟨y.1,y.2.1,none⟩ n (n+y.2.2) vs a.len (λj u k=>by rw[Addr.add_lit];exact hold j u k) ad m c0 us hu hc I hb1 hb2;exact⟨d,w',b,grown d w' q1 q2⟩
def IC{w':Ea}{ops:Ep}{o:Oper}{a:Act}{K:Act->World->Prop}{Q:Eo}{E:Prop}(s x:Ev)(t:Eg){v u b:Ei}(c:o.guard=none)(hop:o.op=Op.call { callee:=Callee.builtin Builtin.append,args:=#[s,x],argTypes:=#[t,t] })
  (hs:a.eval s=v) (hx:a.eval x=u) (hr:(Builtin.append_ #[t,t] o.type #[v,u]).run prog w = .ok b w') (hK:K (a.put o.dst b) w'):if Region.wanted o (yielded ops a.tmps)=true then Oper.wp prog o a w K Q else E:=by
 have hw:Region.wanted o (yielded ops a.tmps)=true:=by simp[Region.wanted,c]
 rw[Y hw];unfold Oper.wp;simp[execOp,hop,resolve,invoke,builtin,hs,hx,hr,Result.andThen];exact hK
def Fk{ops:Ep}{o:Oper}{a:Act}{K:Act->World->Prop}{Q:Eo}{E:Prop}{st et:Eg}{sz:Nat}(T:Ty1 st et sz)(s x:Ev){v:Ei}{c0:Nat}{ad:Addr}{vs:Ec}(f:o.guard=none)(hop:o.op=Op.call { callee:=Callee.builtin Builtin.append,args:=#[s,x],argTypes:=#[st,st] })
  (hrows:yq et sz lo w v n vs) (few:n+m<=100000) (hm:0<m) (hlo:lo<=w.heap.size) (hu:us.length=m*sz) (hc:∀j u,us[j]?=some u->w.cell? (ad.add j)=some u) (hone:∀u∈us,u.oneCell'=true) (hs:a.eval s=v) (hx:a.eval x = .slice (some ad) m c0)
  (hK:∀q c w',yq et sz lo w' (.slice (some q) (n+m) c) (n+m) (vs++us)->Je v w w'->K (a.put o.dst (.slice (some q) (n+m) c)) w'):if Region.wanted o (yielded ops a.tmps)=true then Oper.wp prog o a w K Q else E:=by
 obtain⟨g,w',b,e,⟨q,c,rfl⟩,d⟩:=IY w T o.type (c0:=c0) hrows few hm hlo hu hc hone;exact IC s x st f hop hs hx b (hK q c w' e d)
def Vs(w:Ea):∀j u,z.toList[j]?=some u->(w.alloc (.cells z t)).cell? ((⟨w.heap.size,0,none⟩:Addr).add j)=some u:=λj u a=>by
 rw[Addr.add_lit];exact TR.cell_of_row (Ud w) a
def uD(g:Grown (w.alloc (.cells z t)) w2):∀j u,z.toList[j]?=some u->w2.cell? ((⟨w.heap.size,0,none⟩:Addr).add j)=some u:=λj u a=>RD.zz (Vs w j u a) g
def zag{a:Ec}(hl:a.length=32):List.foldl (λ(cs:Eh) (x:Value×Nat)=>cs.setIfInBounds x.snd x.fst) Oe a.zipIdx=a.toArray:=by
 obtain⟨h1,h2⟩:=Great.foldl_set 0 a 0 Oe;simp only[Lz]at h1 h2;refine Array.ext_getElem? λk=>?_;rw[h2 k];by_cases b:k<32
 .rw[Y ⟨zero_le _,I,b⟩,AB,Nat.sub_zero]
 .rw[O (λh=>b (by have:=h.2.1;omega)),Array.getElem?_eq_none (by show 32<=k;omega),Array.getElem?_eq_none (by rw[AQ];omega)]
section
variable{w w':Ea}{et t2:Eg}{sz s2 lo l2 n n2:Nat}{v v2:Ei}{vs us:Ec}
def Xb(k:Je v w w')(h:yq et sz lo w v n vs){x:Ej}(a:zx prog w x t2 us)(d:t2≠et):zx prog w' x t2 us:=by
 refine @zx.heap unk0 _ _ _ _ _ _ a (k.Jl _ (zx.lt a) λp n m e hp=>?_);rcases h.ex with⟨_,b⟩|⟨y,b,c,_⟩
 .rw[b]at e;cases e
 .rw[b]at e;cases e;exact zx.ne a c d hp.symm
def YG(k:Je v w w')(h:yq et sz lo w v n vs)(a:yq t2 s2 l2 w v2 n2 us)(b:t2≠et):yq t2 s2 l2 w' v2 n2 us:=
 ⟨a.len,a.ex.imp id λ⟨x,e,r,l⟩=>⟨x,e,Xb k h r b,l⟩⟩
def qR(k:Je v w w')(h:yq et sz lo w v n vs){u:Ei}{o:En}(hs:AtS w u o)(f:et≠3):AtS w' u o:=
 ba hs λc arr fz hc=>k.Jl c (LO.1 hc).1 λp n m e hp=>by
  rcases h.ex with⟨_,a⟩|⟨y,a,d,_⟩
  .rw[a]at e;cases e
  .rw[a]at e;cases e;obtain⟨b,g,h1,_⟩:=d;have hp:y.1=c:=hp;rw[hp,hc]at h1;simp only[Ag,Obj.cells.injEq]at h1;exact f h1.2.1.symm
end
end GT
end
section
open TR
namespace GT
def H9(lo:Nat)(w:Ea)(es:List Ent)(R:zy)(e:Ew)(w2:Ea):Prop:=
 Grown w w2/\((∃er:Int,er≠0/\e = .returned (.tuple #[.pointer none,.int .i64 er]))\/∃a z1 z2 D,e = .returned (.tuple #[.pointer (some a),.int .i64 0])/\qY lo w2 (.pointer (some a)) (es++[(R,z1,z2)]) D)
def hJ{es:List Ent}{R:zy}{z:Int}(h:z≠0)(g:Grown w w2):H9 lo w es R (.returned (.tuple #[.pointer none,.int .i64 z])) w2:=⟨g,.inl ⟨z,h,rfl⟩⟩
section
variable{lo:Nat}{w:Ea}{a:Addr}{es:List Ent}{D:Nat->Nat->Nat}{R:zy}{p1 p2:Ed}{n1 n2 c1 c2:Nat}
def Rn(h:qY lo w (.pointer (some a)) es D)(hf:4000<=es.length):Calls prog 12 #[.pointer (some a),Zy R p1 p2 n1 n2 c1 c2] w (H9 lo w es R):=by
 obtain⟨b,o,p,c,hb,ho,hc,rfl,h1,_⟩:=h.cells;have n3:decide (4000<=(es.length:Int))=true:=Lx I;have h2:=RD.zz h1 (zc w (.cells #[.int .i64 R.number,.int .i64 R.version,.string R.tenant,.int .i64 R.session,.string R.action,.string R.path,.int .i64 R.day,.bool R.granted,.int .i64 R.user,.slice p1 n1 c1,.slice p2 n2 c2,.string R.does,.string R.at_,.bool R.deep] 42));clear h h1;go_enter func12,ntmps12;go_wp2
 go_ret2
 exact hJ C (zc _ _)
def zbE(h:qY lo w (.pointer (some a)) es D)(hf:es.length<4000)(hn:R.number≠(es.length:Int)+1):Calls prog 12 #[.pointer (some a),Zy R p1 p2 n1 n2 c1 c2] w (H9 lo w es R):=by
 obtain⟨b,o,p,c,hb,ho,hc,rfl,h1,_⟩:=h.cells;have e1:(R.number==(es.length:Int)+1)=false:=by simpa using hn
 have e2:IntKind.i64.wrap ((es.length:Int)+1)=(es.length:Int)+1:=IntWalk.i64_in _ I;have e3:RowKit.wrap64 ((es.length:Int)+1)=(es.length:Int)+1:=by unfold RowKit.wrap64;omega
 have e6:(R.number != (es.length:Int)+1)=true:=by simpa using hn
 have e4:decide (4000<=(es.length:Int))=false:=LC I;have e5:¬(4000<=(es.length:Int)):=by omega
 have h2:=RD.zz h1 (zc w (.cells #[.int .i64 R.number,.int .i64 R.version,.string R.tenant,.int .i64 R.session,.string R.action,.string R.path,.int .i64 R.day,.bool R.granted,.int .i64 R.user,.slice p1 n1 c1,.slice p2 n2 c2,.string R.does,.string R.at_,.bool R.deep] 42));clear h h1 hf;go_enter func12,ntmps12;go_wp2_with fail
 go_quiet (fail)
 all_goals go_wp2
 all_goals go_ret2
 all_goals exact hJ C ((zc _ _).trans' (NV.Xz _ _))
structure AS(lo:Nat)(w wx:Ea)(b o:Nat)(p:Ed)(c hb ho hc:Nat)(es:List Ent)(D:Nat->Nat->Nat)(R:zy)(p1 p2:Ed)(n1 n2 c1 c2:Nat):Prop where
 g:Grown w wx
 box:recAt wx w.heap.size 0 R p1 p2 n1 n2 c1 c2
 tr:qY lo wx (.pointer (some ⟨b,o,none⟩)) es D
 z1:wx.cell? ⟨b,o,none⟩=some (.slice p es.length c)
 z2:wx.cell? ⟨b,o+1,none⟩=some (.slice (some ⟨hb,ho,none⟩) (es.length+1) hc)
 rows:yq 42 14 lo wx (.slice p es.length c) es.length (cellsOf es)
 nz:es.length=0->p=none/\c=0
 heads:∀j v,(kR es.length D)[j]?=some v->wx.cell? ⟨hb,ho+j,none⟩=some v
 up:AtS wx (.slice p1 n1 c1) R.up
 down:AtS wx (.slice p2 n2 c2) R.down
 tk:kG wx
 mc:QG wx
def AS.grown{d:Ea}{o:Nat}(h:AS lo w u b o p c hb n hc es D R p1 p2 n1 n2 c1 c2)(g:Grown u d):AS lo w d b o p c hb n hc es D R p1 p2 n1 n2 c1 c2:=
 ⟨h.g.trans' g,kj h.box g,h.tr.grown g,RD.zz h.z1 g,RD.zz h.z2 g,h.rows.grown g,h.nz,λj v e=>RD.zz (h.heads j v e) g,(qh.zH g).atS h.up,(qh.zH g).atS h.down,KQ.jk h.tk g,h.mc.grown g⟩
def zeB(i:kG w)(hm:QG w){o:Nat}(h:qY lo w (.pointer (some ⟨b,o,none⟩)) es D)(d:w.cell? ⟨b,o,none⟩=some (.slice p es.length c))(z2:w.cell? ⟨b,o+1,none⟩=some (.slice (some ⟨hb,n,none⟩) (es.length+1) hc))(r:yq 42 14 lo w (.slice p es.length c) es.length (cellsOf es))(e:es.length=0->p=none/\c=0)
  (hh:∀j v,(kR es.length D)[j]?=some v->w.cell? ⟨hb,n+j,none⟩=some v) (h1:AtS w (.slice p1 n1 c1) R.up) (h2:AtS w (.slice p2 n2 c2) R.down) {z:Eh} (hz:Zy R p1 p2 n1 n2 c1 c2 = .agg z) (q:Nat):AS lo w ((w.alloc (.cells z 42)).drewN q) b o p c hb n hc es D R p1 p2 n1 n2 c1 c2:=
 have g:Grown w ((w.alloc (.cells z 42)).drewN q):=(zc _ _).trans' (NV.Xz _ _)
 ⟨g,kj (J9 w hz) (NV.Xz _ _),h.grown g,RD.zz d g,RD.zz z2 g,r.grown g,e,λj v f=>RD.zz (hh j v f) g,(qh.zH g).atS h1,(qh.zH g).atS h2,KQ.jk i g,hm.grown g⟩
def zdA{w:Ea}{es:List Ent}(h:Zw w es):∀v∈cellsOf es,v.oneCell'=true:=aN λe he=>by
 obtain⟨p1,c1,c⟩:=(h e he).1.slice;obtain⟨p2,c2,b⟩:=(h e he).2.slice;exact⟨by rw[c];rfl,by rw[b];rfl⟩
def gj(h:n<4000):n+1<=100000:=by omega
def dk(R:zy){c b:Ed}{l1 d1 l2 d2:Nat}:∀u∈(#[.int .i64 R.number,.int .i64 R.version,.string R.tenant,.int .i64 R.session,.string R.action,.string R.path,.int .i64 R.day,.bool R.granted,.int .i64 R.user,.slice c l1 d1,.slice b l2 d2,.string R.does,.string R.at_,.bool R.deep]:Array Value).toList,u.oneCell'=true:=sL (R:=R) (q1:=c) (q2:=b) (m1:=l1) (m2:=l2) (d1:=d1) (d2:=d2) rfl
def oI(n:Nat)(D:Nat->Nat->Nat):(kR n D).length=(n+1)*32:=by rw[Gg];omega
def MF(n:Nat)(D:Nat->Nat->Nat):∀u∈kR n D,u.oneCell'=true:=λu b=>by
 unfold kR at b;obtain⟨i,_,rfl⟩:=Lv.1 b;rfl
def mI(h:n<4000):n.succ+1<=100000:=by omega
def aM{c:Ec}(h:c=zB 32 f):∀u∈c,u.oneCell'=true:=λu b=>by
 rw[h]at b;unfold zB at b;obtain⟨i,_,rfl⟩:=Lv.1 b;rfl
def aB(w:Ea)(b:Ec):zx prog (w.alloc (.cells b.toArray 29)) (w.heap.size,0,0) 29 b:=Ud w (z:=b.toArray) (t:=29)
def SG(w:Ea)(b:Obj)(c:Ec):zx prog ((w.alloc b).alloc (.cells c.toArray 29)) (w.heap.size+1,0,0) 29 c:=by
 have:=aB (w.alloc b) c;rwa[show(w.alloc b).heap.size=w.heap.size+1 by unfold World.alloc;simp]at this
def Jo{w:Ea}{c:Ec}(h:zx prog w (b,0,0) t c):∀j u,c[j]?=some u->w.cell? ((⟨b,0,none⟩:Addr).add j)=some u:=λj u d=>by
 rw[Addr.add_lit];exact TR.cell_of_row h d
def PN(w:Ea)(b:Ec):∀j u,b[j]?=some u->(w.alloc (.cells b.toArray 29)).cell? ((⟨w.heap.size,0,none⟩:Addr).add j)=some u:=Jo (aB w b)
def uC(w:Ea)(b:Obj):∀j u,z.toList[j]?=some u->((w.alloc b).alloc (.cells z t)).cell? ((⟨w.heap.size+1,0,none⟩:Addr).add j)=some u:=by
 have:=Vs (w.alloc b) (z:=z) (t:=t);rwa[show(w.alloc b).heap.size=w.heap.size+1 by unfold World.alloc;simp]at this
def xB{x:Prop}(_:x){w:Ea}{R:zy}{p1 p2:Ed}{n1 n2 c1 c2:Nat}(b:JZ R)(h1:AtS w (.slice p1 n1 c1) R.up)(h2:AtS w (.slice p2 n2 c2) R.down):Calls prog 29 #[Zy R p1 p2 n1 n2 c1 c2] w (R0 w R):=PZ b h1 h2
def oX{x:Prop}(_:x){w:Ea}{o:Nat}(d:0<n)(hl:us.length=n*32)(hc:∀j u,us[j]?=some u->w.cell? ⟨b,o+j,none⟩=some u)(few:n<=100000)(h1:∀u∈us,u.oneCell'=true):Calls prog 34 #[.slice (some ⟨b,o,none⟩) n c] w (Br 29 32 w n us):=zbm d hl hc few h1
def yu{f : Prop}(_ : f){w : World}{ops : Array Oper}{o : Oper}{a : Act}{K : Act -> World -> Prop}{Q : Exit -> Act -> World -> Prop}{E : Prop}{st d : TypeId}{b : Nat}(T : Ty1 st d b)(s x : Operand){v : Value}{lo n m c0 : Nat}{ad : Addr}{e us : List Value}(g : o.guard = none)(hop : o.op = Op.call { callee := Callee.builtin Builtin.append, args := #[s, x], argTypes := #[st, st] })
    (hrows : yq d b lo w v n e) (few : n + m <= 100000) (hm : 0 < m) (hlo : lo <= w.heap.size) (hu : us.length = m * b) (hc : ∀j u, us[j]?=some u -> w.cell? (ad.add j) = some u) (hone : ∀u ∈ us, u.oneCell' = true) (hs : a.eval s = v) (hx : a.eval x = .slice (some ad) m c0)
    (hK : ∀q c w', yq d b lo w' (.slice (some q) (n + m) c) (n + m) (e ++ us) -> Je v w w' -> K (a.put o.dst (.slice (some q) (n + m) c)) w') : if Region.wanted o (yielded ops a.tmps) = true then Oper.wp prog o a w K Q else E := Fk T s x g hop hrows few hm hlo hu hc hone hs hx hK
def zbF{r wz:Ea}{o:Nat}{Q:Ec}{x z:Addr}{ca:Nat}{v t:Ed}{l1 d1 l2 d2:Nat}(A:AS lo w r b o p c hb n hc es D R p1 p2 n1 n2 c1 c2)(P:lo<=w.heap.size)(g:Grown r wz)
  (k:yq 42 14 r.heap.size wz (.slice (some x) (es.length+1) ca) (es.length+1) (cellsOf es++(#[.int .i64 R.number,.int .i64 R.version,.string R.tenant,.int .i64 R.session,.string R.action,.string R.path,.int .i64 R.day,.bool R.granted,.int .i64 R.user,.slice v l1 d1,.slice t l2 d2,.string R.does,.string R.at_,.bool R.deep]:Array Value).toList))
  (h:yq 29 32 r.heap.size wz (.slice (some z) (es.length.succ+1) m) (es.length.succ+1) (kR es.length D++Q)) (u:AtS wz (.slice v l1 d1) R.up) (d:AtS wz (.slice t l2 d2) R.down) (hf:∀i,f i<256) (hds:Q=zB 32 f) :
  H9 lo w es R (.returned (.tuple #[.pointer (some ⟨wz.heap.size,0,none⟩),.int .i64 0])) (wz.alloc (.cells #[.slice (some x) (es.length+1) ca,.slice (some z) (es.length.succ+1) m] 96)):=by
 have l:=zc wz (.cells #[.slice (some x) (es.length+1) ca,.slice (some z) (es.length.succ+1) m] 96);have gc:=(A.g.trans' g).trans' l;have j:lo<=r.heap.size:=Lj P A.g.size;refine⟨gc,.inr ⟨_,.slice v l1 d1,.slice t l2 d2,λk=>if k=es.length+1 then f else D k,rfl,?_⟩⟩;have hl:(es++[(R,Value.slice v l1 d1,Value.slice t l2 d2)]).length=es.length+1:=by simp
 rcases h.ex with⟨h0,_⟩|⟨y,e,T,H⟩
 .omega
 .simp only[Value.slice.injEq,Ag]at e;obtain⟨rfl,_,rfl⟩:=e;refine⟨⟨(wz.heap.size,0,0),y,some x,ca,rfl,?_,?_,?_,Lj j g.size,Lj j H,λh=>I⟩,?_,λk i=>?_⟩
  .rw[hl];exact Ud wz
  .rw[hl,<- Kf,<- hds];exact qi l T
  .rw[hl,XG];exact(k.lower j).grown l
  .intro e he;rcases LJ.1 he with h1|h1
   .exact(qh.zH (g.trans' l)).lists A.tr.lists e h1
   .rw[Lu]at h1;subst h1;exact⟨(qh.zH l).atS u,(qh.zH l).atS d⟩
  .show(if k=es.length+1 then f else D k) i<256;split
   .exact hf i
   .exact A.tr.lt k i
def zgT{d:Ea}{c b:Obj}(h:KQ.DAt ((u.alloc c).alloc b) (u.alloc c).heap.size)(g:Grown ((u.alloc c).alloc b) d):KQ.DAt d (u.heap.size+1):=by
 rw[show(u.alloc c).heap.size=u.heap.size+1 by unfold World.alloc;simp]at h;exact h.grown g
def DSt(lo:Nat)(w wx:Ea)(s10:Ei)(b o:Nat)(p:Ed)(c hb ho hc:Nat)(es:List Ent)(D:Nat->Nat->Nat)(R:zy)(p1 p2:Ed)(n1 n2 c1 c2:Nat):Prop:=∃(T:Nat) (ds:Ec) (f:Ek),s10 = .pointer (some ⟨T,0,none⟩)/\(∀i,f i<256)/\ds=zB 32 f/\wx.rangeAt T 0 ds/\AS lo w wx b o p c hb ho hc es D R p1 p2 n1 n2 c1 c2
def AS.BD{e d:Ea}{T:Nat}{o:Nat}(k:AS lo w u b o p c hb n hc es D R p1 p2 n1 n2 c1 c2)(g:Grown u e)(h:u.heap.size<=T)(t:jR (· = T) e d):AS lo w d b o p c hb n hc es D R p1 p2 n1 n2 c1 c2:=
 k.grown (qB g t λj f=>by have f:j=T:=f;omega)
def zeR(w1:Ea)(n g:Nat)(i:Ei)(w:Ea):Prop:=∃j:Nat,j+g=n/\i = .int .i64 j/\Grown w1 w
def SQ{lo:Nat}(h:yq 42 14 lo u (.slice p n c) n (cellsOf es))(hn:n=es.length)(g:Grown u w2)(hl:Zw u es){j:Nat}(d:j<n):∃(b o:Nat) (S:zy) (q1 q2:Ed) (m1 m2 d1 d2:Nat),p=some ⟨b,o,none⟩/\recAt w2 b (o+j*14) S q1 q2 m1 m2 d1 d2:=by
 subst hn;rcases h.ex with⟨i,_⟩|⟨x,e,hx,_⟩
 .omega
 .simp only[Value.slice.injEq]at e;obtain⟨rfl,_,rfl⟩:=e;obtain⟨S,q1,q2,m1,m2,d1,d2,f,_,_⟩:=RD.PF hl d;exact⟨x.1,x.2.1,S,q1,q2,m1,m2,d1,d2,rfl,kj (RD.Qu hx f) g⟩
end
end GT
end
end Go.AEv
