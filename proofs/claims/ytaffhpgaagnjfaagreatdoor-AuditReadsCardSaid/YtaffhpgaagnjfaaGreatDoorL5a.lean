/- Trails: L5a. Conditions: each theorem's. -/
import Derived.Test.YtaffhpgaagnjfaaGreatDoorH4x0
set_option linter.all false
open List Nat Go.World Go.Proofs.Tryz Go.IntWalk
open Go.Proofs
set_option maxHeartbeats 4000000
set_option maxRecDepth 100000
namespace Go.AEv
variable{M1 M2 l:Eb}{P:Ef}{a:Addr}{b c c2 h j k lo n n2 x y:Nat}{cs:Ec}{es:List Ent}{f:Ek}{p:Ed}{t:Eg}{v:Int}{w w2:Ea}{z:Eh}
open Go
open KP(W qv)
open KT(zB)
open RD(qe oE Yu Wr XU KF yj jU Low)
open Go.AuditPlain(zm zT hi QL qs zig numbers)
open KQ(jR)
section
open TR
namespace KQ
open KP(tabs)
open RD(In)
def DQ{m g:Nat}{ops:Ep}{rest:Er}{o:Oper}{a:Act}{Q:Eo}(x y:Ev)(z:Eh)(hi:(Tryz.prog.info? t).map (·.size)=some m)(h1:∀v∈cs,v.oneCell'=true)(hl:cs.length=m)(k:z.size=m)(p:o.guard=none)(l:o.op = .store t x y)
  (hx:a.eval x = .pointer (some ⟨g,0,none⟩)) (hgs:g=w.heap.size) (hy:a.eval y = .agg cs.toArray)
  (hK:∀w',zx prog w' (w.heap.size,0,0) t cs->Grown w w'->wpList prog ops Q rest (a.put o.dst undef) w'):wpList prog ops Q (o::rest) a (w.alloc (.cells z t)):=by
 subst hgs;have n:w.heap.size<(w.alloc (.cells z t)).heap.size:=by unfold World.alloc;simp
 have b:(w.alloc (.cells z t)).heap[w.heap.size]?=some (.cells z t (0,0)):=heap_alloc_new w _;refine wpList_store_mid p t x y l w.heap.size 0 cs.toArray hx hy (λj e=>⟨?_,?_⟩) (by rw[AQ,hl];exact hi) (all_oneCell_toArray h1) (hK _ ?_ ?_)
 .unfold World.cell?;rw[b];rw[AQ,hl]at e;show(z[0+j]?).isSome=true;rw[Av I];rfl
 .unfold World.frozen?;rw[b];show(decide (0<=0+j)&&decide (0+j<0))=false;simp
 .obtain⟨d,g1,u,r,_⟩:=jl w.heap.size cs.toArray.toList 0 (w.alloc (.cells z t)) z t (0,0) b (by rw[AI,hl];omega);refine⟨d,(0,0),g1,?_,λi _ h=>I,Nat.dvd_zero _,λj e=>?_⟩
  .show 0+cs.length+0*_<=_;rw[Nat.zero_mul,hl,u,k];omega
  .have:=r j (by rw[AI];exact e);rwa[AI]at this
 .have f:=zc w (.cells z t);exact⟨λc hc=>by rw[heap_setCells_other _ _ _ _ I I];exact f.old c hc,by rw[kA];exact f.size,by rw[kz];rfl,by rw[os_setCells];rfl,by rw[output_setCells];rfl⟩
def rm{d:Es}{ops:Ep}{rest:Er}{o:Oper}{a:Act}{Q:Eo}(x:Ev)(e:Tryz.prog.underlying t=some d)(hd:d.isRow=true)(hi:(Tryz.prog.info? t).map (·.size)=some cs.length)(f:o.op = .load t x)(H:w.rangeAt b 0 cs)(hw:Region.wanted o (yielded ops a.tmps)=true)
  (hx:a.eval x = .pointer (some ⟨b,0,none⟩)) (hK:wpList prog ops Q rest (a.put o.dst (.agg cs.toArray)) w):wpList prog ops Q (o::rest) a w:=
 wpList_step λK c=>by
  rw[Y hw];exact wp_load_mid t x f b 0 hx cs _ H e hd hi (c _ _ hK)
def BAt(w:Ea)(y:Nat):Prop:=∃b:Nat->Nat,(∀j,b j<256)/\zx prog w (y,0,0) 301 (qE b)
def BAt.grown(H:BAt w y)(g:Grown w w2):BAt w2 y:=by
 obtain⟨b,hb,a⟩:=H;exact⟨b,hb,qi g a⟩
def WH{b:Ek}(a:j<136):(qE b)[j]?=some (.int .u8 (b j:Nat)):=by
 unfold qE;rw[Lw,Ah a];rfl
theorem BAt.cell{w:Ea}{y:Nat}(H:BAt w y){j:Nat}(c:j<136):(∃x:Nat,x<256/\w.cell? ⟨y,j,none⟩=some (.int .u8 (x:Nat)))/\w.frozen? ⟨y,j,none⟩=false:=by
 obtain⟨b,hb,a⟩:=H;have:=TR.cell_of_row a (WH c);rw[Lz]at this;exact⟨⟨b j,hb j,this⟩,JF a (by rw[jg];exact c)⟩
def zfB(b:Ek):(qE b).set k (.int .u8 (x:Nat))=qE (λj=>if j=k then x else b j):=by
 refine AF λi=>?_;rw[List.getElem?_set];unfold qE;rw[Ls,As,Lw,Lw];rcases LD i 136 with h|h
 .rw[Ah h];show _=some (Value.int .u8 ((if i=k then x else b i:Nat):Int));split
  .rename_i e;rw[Y I];try rw[Y e.symm]
  .rename_i e;try rw[O λa=>e a.symm]
   rfl
 .rw[Au (by rw[As];exact h)];split
  .rw[O I];rfl
  .rfl
def BAt.set(H:BAt w y)(c:k<136)(hx:x<256)(hv:(x:Int)=v):BAt (w.setCell ⟨y,k,none⟩ (.int .u8 v)) y:=by
 subst hv;obtain⟨b,hb,a⟩:=H;refine⟨λj=>if j=k then x else b j,λj=>?_,?_⟩
 .show(if j=k then x else b j)<256;split
  .exact hx
  .exact hb j
 .have:=RD.Jn (v:=.int .u8 (x:Nat)) (k:=k) a (by rw[jg];exact c);rwa[zfB]at this
def BAt.nC:∀(L:Eb) (o:Nat) {w:Ea},BAt w y->(∀x∈L,x<256)->o+L.length<=136->BAt (w.setCells y o (qe L)) y/\jR (· = y) w (w.setCells y o (qe L))
 | [],_,w,H,_,_=>⟨H,jR.refl _ _⟩
 | x::L,o,w,H,hL,hl=>by
  have hl:o+(L.length+1)<=136:=hl;obtain⟨h1,h2⟩:=BAt.nC L (o+1) (H.set (k:=o) (x:=x) I (hL x LG) rfl) (λy a=>hL y (LP _ a)) I;exact⟨h1,(jW w y o _).trans h2⟩
def zbA(w:Ea)(b:z=(List.replicate 136 (Value.int .u8 0)).toArray):BAt (w.alloc (.cells z 301)) w.heap.size:=by
 refine⟨λ_=>0,λ_=>zero_lt_succ _,z,(0,0),heap_alloc_new w _,?_,λi _ h=>I,Nat.dvd_zero _,λj a=>?_⟩
 .rw[jg,b];simp
 .rw[jg]at a;rw[WH a,b,AB];show(List.replicate 136 (Value.int .u8 0))[0+j]?=_;rw[Lz,List.getElem?_replicate,Y a];rfl
def vw{ops:Ep}{o:Oper}{a:Act}{K:Act->World->Prop}{Q:Eo}{E:Prop}(d s:Ev){used dc:Nat}
  (m:o.guard=none) (hop:o.op=Op.call { callee:=Callee.builtin Builtin.copy,args:=#[d,s],argTypes:=#[51,51] }) (H:HAt w h used) (hu:used<136) (B:BAt w y)
  (hd:a.eval d = .slice (some ⟨y,0,none⟩) 136 dc) (hs:a.eval s = .slice (some ⟨h,25,none⟩) used c)
  (hK:∀w',BAt w' y->jR (· = y) w w'->K (a.put o.dst (.int .i64 (used:Nat))) w') :
  if Region.wanted o (yielded ops a.tmps)=true then Oper.wp prog o a w K Q else E:=by
 obtain⟨r,b,tot,_,hb,p⟩:=H;have hl:((List.range used).map b).length=used:=by simp
 have l:(qe ((List.range used).map b)).length=used:=by unfold qe;simp
 have hc:∀j,j<used->w.cell? ⟨h,25+j,none⟩=some (.int .u8 (b j:Nat)):=λj f=>by
  have m:(qv r++(qE b++[Value.int .i64 (used:Nat),Value.int .u64 tot]))[25+j]?=some (.int .u8 (b j:Nat)):=by
   rw[Aj (by rw[qV];omega),qV,LA,Ao (by rw[jg];omega)];exact WH I
  have:=TR.cell_of_row p m;rwa[Lz]at this
 have g:=run_copy_cells (P:=prog) w 51 51 o.type 5 y 0 136 dc ⟨h,25,none⟩ used c (qe ((List.range used).map b)) RD.under51 U (by rw[l,show Nat.min used 136=min used 136 from rfl];omega) (λj v f=>by
  unfold qe at f;rw[LZ,Lw]at f;obtain⟨i,hi,rfl⟩:=LU.1 f
  have k:j<used:=by
   have:=(LL.1 hi).1;simpa using this
  rw[Ah k]at hi;cases hi;rw[Addr.add_lit]
  exact hc j k) (λj f=>by
   obtain⟨x,_,e⟩:=(B.cell (j:=0+j) I).1;rw[e]
   rfl) (λj f=>(B.cell (j:=0+j) I).2) (λv hv=>by
  unfold qe at hv;obtain⟨y,_,rfl⟩:=Lv.1 hv
  rfl)
 obtain⟨n,k2⟩:=BAt.nC ((List.range used).map b) 0 B (λx hx=>by obtain⟨j,_,rfl⟩:=Lv.1 hx;exact hb j) (by rw[hl];omega);rw[Y (by simp[Region.wanted,m])];unfold Oper.wp;simp only[execOp,hop,resolve,invoke,builtin,Lg,Ln,Li,map_toArray,Aw,map_nil,hd,hs,g];rw[l];exact hK _ n k2
end KQ
end
section
open TR
namespace KQ
open KP(tabs)
def HAt.KX{used:Nat}(H:HAt w h used)(t:jR (· = y) w w2)(d:h≠y):HAt w2 h used:=by
 obtain⟨a,b,tot,ha,hb,c⟩:=H;exact⟨a,b,tot,ha,hb,@zx.heap unk0 _ _ _ _ _ _ c (t.1 _ (zx.lt c) d)⟩
def eJ{x:Ej}{a:Ec}(b:zx prog w x t a)(k:jR (· = y) w w2)(c:x.1≠y):zx prog w2 x t a:=@zx.heap unk0 _ _ _ _ _ _ b (k.1 _ (zx.lt b) c)
def under300:Tryz.prog.underlying 300=some (.array 25 106):=U
def TM(a:cs=qv f):(Tryz.prog.info? 300).map (·.size)=some cs.length:=by
 subst a;have k:(Tryz.prog.info? 300).map (·.size)=some 25:=U;rw[k,qV]
def FP(a:cs=qv f):∀v∈cs,v.oneCell'=true:=by
 subst a;intro v hv;obtain⟨i,_,rfl⟩:=Lv.1 hv;rfl
def F7(a:cs=qv f):cs.length=25:=by rw[a,qV]
def HAt.range{used:Nat}(H:HAt w h used):∃(cs:Ec) (f:Ek),(∀i,f i<W)/\cs=qv f/\w.rangeAt h 0 cs:=by
 obtain⟨a,b,tot,ha,hb,d⟩:=H;refine⟨_,a,ha,rfl,λj v c=>?_⟩;have:=TR.cell_of_row d (j:=j) (v:=v) (by rw[Ao (LL.1 c).1];exact c);rwa[Lz]at this ⊢
def kq{o:Nat}(h:w.rangeAt b o cs)(g:Grown w w2):w2.rangeAt b o cs:=λj v a=>RD.zz (h j v a) g
def iG{ad:Addr}{k:Et}(hi:(P.info? t).map (·.size)=some 1)(hc:(w.cell? ad).isSome=true)(d:w.frozen? ad=false):(storeVar t ad (.int k v)).run P w = .ok () (w.setCell ad (.int k v)):=by
 obtain⟨u,b⟩:=LM.1 hc
 have c:(store ad (.int k v)).run P w = .ok () (w.setCell ad (.int k v)):=by
  rw[run_store P w ad (.int k v) _ rfl,b];simp[d]
 have a:ad.add 0=ad:=by cases ad;unfold Addr.add;split<;>simp_all
 cases hq:P.info? t with
 | none=>rw[hq]at hi;cases hi
 | some i=>
  have hs:i.size=1:=by rw[hq]at hi;exact Aa hi
  simp[storeVar,sizeOf,typeInfo,hq,Value.cells,hs,storeCells,a,c]
def lf{ops:Ep}{rest:Er}{o:Oper}{a:Act}{Q:Eo}(x y:Ev){ad:Addr}{k:Et}(d:o.guard=none)(c:o.op = .store t x y)
  (hi:(P.info? t).map (·.size)=some 1) (hx:a.eval x = .pointer (some ad)) (hy:a.eval y = .int k v) (hc:(w.cell? ad).isSome=true) (hf:w.frozen? ad=false)
  (hK:∀w',w'=w.setCell ad (.int k v)->wpList P ops Q rest (a.put o.dst undef) w'):wpList P ops Q (o::rest) a w:=by
 refine wpList_plain d λK b=>?_;have hv:=iG (k:=k) (v:=v) hi hc hf;unfold Oper.wp execOp;simp only[c,hx,hy,Instr.storeAt,Instr.sureAddr,Lg,Ln,Li,hv];exact b _ _ (hK _ rfl)
def RA(h:∀i,f i<W)(g:zx prog w (x,0,0) 300 (qv f))(B:BAt w y)(t:kG w)(hx:3<=x)(a:x<y):Calls prog 189 #[.pointer (some ⟨x,0,none⟩),.slice (some ⟨y,0,none⟩) 136 136] w λe w2=>
  e = .returned (.tuple #[])/\(∃d:Nat->Nat,(∀i,d i<W)/\zx prog w2 (x,0,0) 300 (qv d))/\jR (λk=>k=x\/k=y) w w2:=by
 letI:=KP.unkK;obtain⟨b,hb,j⟩:=B
 have sep:∀z,3<=z->∀p∈KP.tabs,p.1≠z:=λz c p hp e=>by
  simp only[KP.tabs,Lf,Lq,Lo]at hp;rcases hp with rfl|rfl
  .exact Ld c (by have:z=1:=e.symm;omega)
  .exact Ld c (by have:z=2:=e.symm;omega)
 exact zbR h hb g j (ne_of_lt a) (sep x hx) (sep y I) (WU t)
def cZ:((List.range 256).all λx=>decide (bits .xor .u8 (x:Nat) 128=((x ^^^ 128:Nat):Int))&&decide (x ^^^ 128<256))=true:=U
def Sb(h:x<256):∃a:Nat,a<256/\(a:Int)=bits .xor .u8 (x:Nat) 128:=by
 have:=Ad.1 cZ x (Lr.2 h);rw[Le,Lk,Lk]at this;exact⟨_,this.2,this.1.symm⟩
def BAt.xor(H:BAt w y)(hx:x<256):BAt (w.setCell ⟨y,135,none⟩ (.int .u8 (bits .xor .u8 (x:Nat) 128))) y:=by
 obtain⟨a,h1,h2⟩:=Sb hx;exact H.set C h1 h2
def DAt(w:Ea)(z:Nat):Prop:=∃f:Nat->Nat,(∀i,f i<256)/\zx prog w (z,0,0) 29 (zB 32 f)
theorem DAt.cell{w:Ea}{z:Nat}(H:DAt w z){j:Nat}(b:j<32):(w.cell? ⟨z,j,none⟩).isSome=true/\w.frozen? ⟨z,j,none⟩=false:=by
 obtain⟨f,c,a⟩:=H;have hl:(zB 32 f).length=32:=KT.qT ..;have:=TR.cell_of_row a (Ly (l:=zB 32 f) (i:=j) (by rw[hl];exact b));rw[Lz]at this;exact⟨by show(w.cell? ⟨z,j,none⟩).isSome=true;rw[show w.cell? ⟨z,j,none⟩=_ from this];rfl,JF a (by rw[hl];exact b)⟩
def DAt.grown{z:Nat}(H:DAt w z)(g:Grown w w2):DAt w2 z:=by
 obtain⟨b,hb,a⟩:=H;exact⟨b,hb,qi g a⟩
def DAt.KX{z:Nat}(H:DAt w z){p:Em}(k:jR p w w2)(c:¬p z):DAt w2 z:=by
 obtain⟨b,hb,a⟩:=H;exact⟨b,hb,@zx.heap unk0 _ _ _ _ _ _ a (k.1 _ (zx.lt a) c)⟩
def yf(w:Ea)(b:z=(List.replicate 32 (Value.int .u8 0)).toArray):DAt (w.alloc (.cells z 29)) w.heap.size:=by
 refine⟨λ_=>0,λ_=>zero_lt_succ _,z,(0,0),heap_alloc_new w _,?_,λi _ h=>I,Nat.dvd_zero _,λj a=>?_⟩
 .rw[KT.qT,b];simp
 .rw[KT.qT]at a;rw[b,AB];show(List.replicate 32 (Value.int .u8 0))[0+j]?=_;unfold zB;rw[Lz,List.getElem?_replicate,Y a,Lw,Ah a];rfl
def qB{u a:Ea}{p:Em}(g:Grown w u)(t:jR p u a)(hp:∀k,p k->w.heap.size<=k):Grown w a:=
 ⟨λk b=>(t.1 k (LK b g.size) λh=>by have:=hp k h;omega).trans (g.old k b),Lj g.size t.2.1,t.2.2.1.trans g.tape,t.2.2.2.1.trans g.os,t.2.2.2.2.trans g.output⟩
structure Sm(w w8 wr:Ea)(f:Ek)(g:Nat)(i:Ei):Prop where
 at_:∃j:Nat,j+g=32/\i = .int .i64 (j:Nat)
 words:zx prog wr (w.heap.size+1,0,0) 300 (qv f)
 res:DAt wr w.heap.size
 box:DAt wr w8.heap.size
 grown:Grown w wr
def Sm.start{u:Ea}(A:zx prog u (w.heap.size+1,0,0) 300 (qv f)/\DAt u w.heap.size/\Grown w u)(a:z=(List.replicate 32 (Value.int .u8 0)).toArray):Sm w u (u.alloc (.cells z 29)) f 32 (.int .i64 0):=
 ⟨⟨0,rfl,rfl⟩,qi (zc _ _) A.1,A.2.1.grown (zc _ _),yf u a,A.2.2.trans' (zc _ _)⟩
def DAt.range{z:Nat}(H:DAt w z):∃(cs:Ec) (f:Ek),(∀i,f i<256)/\cs=zB 32 f/\w.rangeAt z 0 cs:=by
 obtain⟨f,c,a⟩:=H;exact⟨_,f,c,rfl,λj v b=>by have:=TR.cell_of_row a b;rwa[Lz]at this ⊢⟩
def ky(b:Nat):∀(a:Ec) (o:Nat) (w:Ea),jR (· = b) w (w.setCells b o a)
 | [],_,w=>jR.refl _ _
 | v::a,o,w=>(jW w b o v).trans (ky b a (o+1) _)
def yr{ops:Ep}{rest:Er}{o:Oper}{a:Act}{Q:Eo}(x y:Ev){r:Nat}(D:DAt w r)(b:cs=zB 32 f)(g:o.guard=none)(e:o.op = .store 29 x y)
  (hx:a.eval x = .pointer (some ⟨r,0,none⟩)) (hy:a.eval y = .agg cs.toArray)
  (hK:∀w',w'.rangeAt r 0 cs->jR (· = r) w w'->wpList prog ops Q rest (a.put o.dst undef) w'):wpList prog ops Q (o::rest) a w:=by
 have hl:cs.length=32:=by rw[b,KT.qT]
 refine wpList_store_mid g 29 x y e r 0 cs.toArray hx hy (λj c=>?_) (by rw[AQ];exact Qz b) (all_oneCell_toArray λv hv=>?_) (hK _ ?_ (ky _ _ _ _))
 .rw[AQ,hl]at c;exact D.cell (j:=0+j) I
 .rw[b]at hv;unfold zB at hv;obtain⟨i,_,rfl⟩:=Lv.1 hv;rfl
 .obtain⟨k,_,arr,fz,h1,h2,_⟩:=D;have h2:0+(zB 32 k).length+0*qS prog 29<=arr.size:=h2;rw[KT.qT]at h2;obtain⟨d,g1,l,h,_⟩:=jl r cs.toArray.toList 0 w arr 29 fz h1 (by rw[AI,hl];omega);intro j v c;have:=h j (by rw[AI];exact(LL.1 c).1);rw[AI,c]at this;unfold World.cell?;rw[g1];exact this
def DAt.set{z:Nat}(H:DAt w z)(b:k<32)(hx:x<256)(hv:(x:Int)=v):DAt (w.setCell ⟨z,k,none⟩ (.int .u8 v)) z:=by
 subst hv;obtain⟨f,c,a⟩:=H;refine⟨λj=>if j=k then x else f j,λj=>?_,?_⟩
 .show(if j=k then x else f j)<256;split
  .exact hx
  .exact c j
 .have:=RD.Jn (v:=.int .u8 (x:Nat)) (k:=k) a (by rw[KT.qT];exact b)
  have e:(zB 32 f).set k (.int .u8 (x:Nat))=zB 32 (λj=>if j=k then x else f j):=by
   refine AF λi=>?_;rw[List.getElem?_set];unfold zB;rw[Ls,As,Lw,Lw];rcases LD i 32 with h|h
   .rw[Ah h];show _=some (Value.int .u8 ((if i=k then x else f i:Nat):Int));split
    .rename_i e;rw[Y I];try rw[Y e.symm]
    .rename_i e;try rw[O λd=>e d.symm]
     rfl
   .rw[Au (by rw[As];exact h)];split
    .first
      | (rw[O I];rfl)
      | (exfalso;omega)
    .rfl
  rwa[e]at this
def Si(h:zx prog w (x,0,0) 300 (qv f))(a:j<25):w.cell? ⟨x,j,none⟩=some (.int .u64 (f j:Nat)):=by
 have:=TR.cell_of_row h (j:=j) (v:=.int .u64 (f j:Nat)) (by unfold qv KP.r25;rw[Lw,Ah a];rfl);rwa[Lz]at this
def qN{fn:Func}{p:Tmp}{ty:Eg}(h:fn.results = #[.cell p ty])(tmps:Eh)(w:Ea)(g:Nat)(cs:Ec)(d:Es)
  (hp:tmps.getD p undef = .pointer (some ⟨g,0,none⟩)) (hc:w.rangeAt g 0 cs) (hu:P.underlying ty=some d) (hd:d.isRow=true) (hi:(P.info? ty).map (·.size)=some cs.length) :
  (results fn tmps).run P w = .ok (.agg cs.toArray) w:=by
 have a:tmps[p]?.getD undef = .pointer (some ⟨g,0,none⟩):=by simpa using hp
 simp[results,h,a,asAddr,run_loadVar_mid w g 0 ty cs d hc hu hd hi]
def Hv(w:Ea)(e:Ew)(w2:Ea):Prop:=(∃f:Nat->Nat,(∀i,f i<256)/\e = .returned (.agg (zB 32 f).toArray))/\Grown w w2
def zff{used:Nat}(H:HAt w h used)(hu:used<136)(t:kG w):Calls prog 140 #[.pointer (some ⟨h,0,none⟩)] w (Hv w):=by
 obtain⟨cs,f,hf,hcs,hrg⟩:=H.range;have HH:=A H;have HT:=A t;have HC:=A hcs;have HR:=A hrg;have HU:=A hu;have HF:=A hf;clear H t hcs hrg hf;go_enter func140,ntmps140
 go_wp2_with(first
  | (refine rm _ under300 rfl (TM HC.o) rfl (kq HR.o (zc _ _)) rfl rfl ?_)
  | (refine DQ _ _ _ U (FP HC.o) (F7 HC.o) rfl rfl rfl rfl (by unfold World.alloc;simp) rfl ?_;intro w3 k1 k2;have R3:=A k1;have G3:=A k2;clear k1 k2))
 .generalize hw4:w3.alloc _=w4;have hB:BAt w4 w3.heap.size:=by rw[<- hw4];exact zbA w3 rfl
  have g4:Grown w3 w4:=by rw[<- hw4];exact zc _ _
  have hh:h<w.heap.size:=block_lt_of_cell? w _ HH.o.used.1;have g0:Grown w w4:=(zc w _).trans' (G3.o.trans' g4);have hxl:=zx.lt R3.o;have e1:∀z,(w.alloc z).heap.size=w.heap.size+1:=λz=>by unfold World.alloc;simp
  have R4:=A (qi g4 R3.o);rw[e1]at R4;replace hxl:w.heap.size+1<w3.heap.size:=by have h:(w.alloc _).heap.size<w3.heap.size:=hxl;rw[e1]at h;exact h
  generalize w3.heap.size=y at *;have H4:=A (HH.o.grown g0);have B4:=A hB;have G0:=A g0;have hhy:h≠y:=by omega
  have D4:=A ((yf w rfl).grown (G3.o.trans' g4));have HY:=A (And.intro hhy (And.intro hxl hh));have hu0:(0:Int)<=(used:Int):=by omega
  have hu1:(used:Int)<=136:=by omega
  have hu2:(used:Int)<136:=by omega
  have c4:=H4.o.used.1;clear R3 G3 hB hw4 g4 g0 hhy hxl hh e1;go_wp2;go_region_law (refine vw (.tmp 14) (.tmp 22) (h:=h) (used:=used) (y:=y) (c:=136) (dc:=136) rfl rfl (H4.o.grown (zM _)) HU.o (B4.o.grown (zM _)) (by simp[Act.eval,Act.put]) (by simp[Act.eval,Act.put]) ?_;intro w5 k1 k2;have c5:=((H4.o.grown (zM _)).KX k2 HY.o.1).used.1;have B5:=A k1;have T5:=A k2;clear k1 k2)
  go_wp2_with(first
   | (refine lf _ _ rfl rfl U rfl rfl (by obtain⟨⟨x,_,e⟩,_⟩:=B5.o.cell HU.o;rw[e];rfl) (B5.o.cell HU.o).2 ?_;intro w6 e6;have B6:=A (show BAt w6 y by rw[e6];exact B5.o.set HU.o (x:=6) C rfl);have T6:=A (show jR (· = y) w5 w6 by rw[e6];exact jW _ _ _ _);obtain⟨⟨x6,hx6,c6⟩,f6⟩:=B6.o.cell (j:=135) C;clear e6))
  have hy0:=HY.o.2.1;have hn1:w.heap.size+1≠y:=by have:=HY.o.2.1;omega
  have hn2:w.heap.size≠y:=by have:=HY.o.2.1;omega
  have h3:3<=w.heap.size+1:=by have:2<w.heap.size:=zx.lt HT.o.2;omega
  obtain⟨w7,e7⟩:∃w7,w7=w6.setCell ⟨y,135,none⟩ (.int .u8 (bits .xor .u8 (x6:Nat) 128)):=⟨_,rfl⟩
  have B7:BAt w7 y:=by rw[e7];exact B6.o.xor hx6
  have T7:jR (· = y) w4.drew w7:=by rw[e7];exact(T5.o.trans T6.o).trans (jW _ _ _ _)
  have G7:Grown w w7:=qB (G0.o.trans' (zM _)) T7 λk hk=>by have hk:k=y:=hk;omega
  have R7:zx prog w7 (w.heap.size+1,0,0) 300 (qv f):=by rw[<- HC.o];exact eJ (qi (zM _) R4.o) T7 hn1
  have D7:DAt w7 w.heap.size:=(D4.o.grown (zM _)).KX T7 hn2;rw[<- e7];clear e7;go_at_call 189
  (with_reducible refine(RA HF.o R7 B7 (jk HT.o G7) h3 HY.o.2.1).mono ?_)
  rintro e w8 ⟨rfl,⟨f8,hf8,r8⟩,t8⟩
  have D8:DAt w8 w.heap.size:=D7.KX t8 (by intro h;rcases h with h|h<;>omega);have G8:Grown w w8:=qB G7 t8 λk hk=>by rcases hk with h|h<;>omega
  have A8:=A (And.intro r8 (And.intro D8 G8));have hl8:w.heap.size+1<w8.heap.size:=zx.lt r8;clear r8 t8 hf8 D8 G8 D7 R7 G7 T7 B7 B6 T6 B5 T5 c6 f6 c5 c4 D4 R4 H4 B4 G0;go_wp2;go_loopg [35] 32 (λg i wr=>Sm w w8 wr f8 g i)
  case atStart=>exact Sm.start A8.o rfl
  case round=>
   obtain⟨⟨j,hj,rfl⟩,h1,h2,h4,h5⟩:=hrel
   cases gk with
   | zero=>
    have hjm:¬((j:Int)<32):=by omega
    have S:=A (And.intro h1 (And.intro h2 (And.intro h4 h5)));clear h1 h2 h4 h5;obtain⟨ds,fd,hfd,hds,hrd⟩:=S.o.2.2.1.range;have RD':=A hrd;have DS:=A hds;clear hrd hds
    go_wp2_with(first
     | (refine rm _ under29 rfl (Qz DS.o) rfl RD'.o rfl rfl ?_)
     | (refine yr _ _ S.o.2.1 DS.o rfl rfl rfl rfl ?_;intro w9 k1 k2;have R9:=A k1;have T9:=A k2;clear k1 k2))
    have GG:Grown w w9:=qB S.o.2.2.2 T9.o λk hk=>by have hk:k=w.heap.size:=hk;omega
    try simp only[Exit.inBlock,Exit.then]
    refine bodyPost_ret (qN (p:=2) (ty:=29) rfl _ w9 w.heap.size ds _ rfl R9.o under29 rfl (Qz DS.o)) rfl ?_
    exact⟨⟨fd,hfd,by rw[DS.o]⟩,GG⟩
   | succ g=>
    have hjm:(j:Int)<32:=by omega
    have hj0:(0:Int)<=(j:Int):=by omega
    have S:=A (And.intro h1 (And.intro h2 (And.intro h4 h5)));have cw:=Si h1 (j:=j / 8) I;clear h1 h2 h4 h5;go_wp2_with(refine lf _ _ rfl rfl U rfl rfl (S.o.2.2.1.cell I).1 (S.o.2.2.1.cell I).2 ?_;intro w9 e9);have hbyte:f8 (j / 8) / 2 ^ (8*(j % 8)) % 256<256:=Af _ C;have T9:jR (· = w8.heap.size) wr w9:=by rw[e9];exact jW _ _ _ _
    have hcast:((f8 (j / 8) / 2 ^ (8*(j % 8)) % 256:Nat):Int)=(f8 (j / 8):Int) / 2 ^ (8*(j % 8)) % 256:=by
     push_cast
     rfl
    have D9:DAt w9 w8.heap.size:=by rw[e9];exact S.o.2.2.1.set I hbyte hcast
    subst e9;go_roundg g
    case measure=>omega
    case rel=>exact⟨⟨j+1,I,rfl⟩,eJ S.o.1 T9 (by show w.heap.size+1≠w8.heap.size;omega),S.o.2.1.KX T9 (by show ¬w.heap.size=w8.heap.size;omega),D9,qB S.o.2.2.2 T9 λk hk=>by have hk:k=w8.heap.size:=hk;omega⟩
end KQ
end
section
open TR
namespace KQ
open KP(tabs)
open RD(In)
def zkP(w:Ea)(e:Ew)(w2:Ea):Prop:=∃h,e = .returned (.pointer (some ⟨h,0,none⟩))/\HAt w2 h 0/\Grown w w2/\w.heap.size<=h
def T8(w:Ea)(a:z=(List.replicate 25 (Value.int .u64 0)++(List.replicate 136 (Value.int .u8 0)++[Value.int .i64 0,Value.int .u64 0])).toArray):HAt (w.alloc (.cells z 303)) w.heap.size 0:=by
 refine⟨λ_=>0,λ_=>0,0,λ_=>(by decide:0<W),λ_=>zero_lt_succ _,z,(0,0),heap_alloc_new w _,?_,λi _ h=>I,Nat.dvd_zero _,λj d=>?_⟩
 .rw[Ke,a];simp
 .have c:qv (λ_=>0)=List.replicate 25 (Value.int .u64 0):=by rfl
  have b:qE (λ_=>0)=List.replicate 136 (Value.int .u8 0):=by rfl
  rw[a,AB,c,b];show _=_;rw[Lz];rfl
def zge:Calls prog 138 #[] w (zkP w):=by
 go_enter func138,ntmps138
 go_wp2
 go_ret
 exact⟨_,rfl,T8 w rfl,zc _ _,Lh _⟩
def Sx(t:kG w){L:Eb}(hi:In w p L)(hc:L.length<=c)(hl:L.length<=1000000)(hp:∀a,p=some a->a.block<w.heap.size):Calls prog 82 #[.slice p L.length c] w (Hv w):=by
 have HT:=A t;have HI:=A (And.intro hi (And.intro hc (And.intro hl hp)));have h3:3<=w.heap.size:=zx.lt t.2;have H3:=A h3;clear t hi hc hl hp h3;go_enter func82,ntmps82
 go_wp2_with(first
  | (go_at_call 138;(with_reducible refine zge.mono ?_);rintro e w1 ⟨h,rfl,k1,k2,k3⟩;have H1:=A k1;have G1:=A ((zc _ _).trans' k2);have D1:=A ((yf w rfl).grown k2);have L1:=A (LK (by unfold World.alloc;simp:w.heap.size<_) k3);clear k1 k2 k3)
  | (go_at_call 139;(with_reducible refine(Sd H1.o C (jk HT.o G1.o) (by have:=H3.o;have:=L1.o;omega) (by have:=H3.o;have:=L1.o;omega) (RD.ym HI.o.1 G1.o) (λa ha=>by have:=HI.o.2.2.2 a ha;have:=L1.o;omega) HI.o.2.1 HI.o.2.2.1).mono ?_);rintro e w2 ⟨rfl,⟨u,hu,k1⟩,k2⟩;have H2:=A k1;have HU:=A hu;have G2:=A (qB G1.o k2 λk hk=>by have hk:k=_:=hk;have:=L1.o;omega);have D2:=A (D1.o.KX k2 (by have:=L1.o;show ¬w.heap.size=_;omega));clear k1 k2 hu)
  | (go_at_call 140;(with_reducible refine(zff H2.o HU.o (jk HT.o G2.o)).mono ?_);rintro e w3 ⟨⟨f,hf,rfl⟩,k2⟩;obtain⟨ds,hds⟩:∃ds,ds=zB 32 f:=⟨_,rfl⟩;rw[<- hds];have DS:=A hds;have F3:=A hf;have G3:=A (G2.o.trans' k2);have D3:=A (D2.o.grown k2);clear k2 hds hf)
  | (refine yr _ _ D3.o DS.o rfl rfl rfl rfl ?_;intro w4 k1 k2;have R4:=A k1;have T4:=A k2;clear k1 k2))
 have GG:Grown w w4:=qB G3.o T4.o λk hk=>by have hk:k=w.heap.size:=hk;omega
 try simp only[Exit.inBlock,Exit.then]
 refine bodyPost_ret (qN (p:=2) (ty:=29) rfl _ w4 w.heap.size ds _ rfl R4.o under29 rfl (Qz DS.o)) rfl ?_;exact⟨⟨f,F3.o,by rw[DS.o]⟩,GG⟩
end KQ
end
section
open TR
namespace KW
open RD(In)
def P1(w:Ea)(s:Ee):∃cap b,(convert 9 51 (.string s)).run prog w = .ok (.slice (some ⟨w.heap.size,0,none⟩) s.size cap) b/\Grown w b/\In b (some ⟨w.heap.size,0,none⟩) (zG s):=by
 refine⟨_,_,run_bytes_of_string w 9 51 5 s U RD.under51 U,(zM w).trans' (zc _ _),λx hx=>@ZF unk0 s x hx,λ_=>⟨_,_,rfl,λi x hx=>?_⟩⟩;unfold World.cell?;rw[show(w.drew.alloc _).heap[w.heap.size]?=_ from heap_alloc_new w.drew _];rw[JC]at hx;obtain⟨y,c,rfl⟩:=LU.1 hx;show(bytesRow s _)[0+i]?=_;have a:i<s.data.size:=(LO.1 c).1;rw[Lz,bytesRow_at s _ i a];rw[Av a]at c;cases c;rfl
def Dr{B:Nat}{L M:Eb}{i:Nat}(h:Wr B w b L)(d:B<=w.heap.size)(hi:In w (some ⟨k,i,none⟩) M)(hq:k≠b/\∀a n m,w.cell? ⟨b,0,none⟩=some (.slice (some a) n m)->a.block≠k)(c:M≠[])(hlen:L.length+M.length<=90000)(hn:M.length=n) :
  Calls prog 37 #[.pointer (some ⟨b,0,none⟩),.slice (some ⟨k,i,none⟩) n j] w (XU B w b (L++zm M)):=by
 subst hn;exact RD.Dp h d hi hq c hlen
def IA{B:Nat}{L:Eb}{s:Ee}(h:Wr B w b L)(hB:B<=w.heap.size)(hs:s.size≠0)(hl:L.length+s.size<=90000):Calls prog 81 #[.pointer (some ⟨b,0,none⟩),.string s] w (XU B w b (L++zm (zG s))):=by
 obtain⟨cap,w1,hcv,g1,i1⟩:=P1 w s;have H:=A (RD.Zj h g1);have HQ:=A (RD.ef h g1 (Lh _));have HB:=A hB;have G1:=A g1;have I1:=A i1;have HS:=A (show zG s≠[] from λe=>hs (by rw[<- zR,e];rfl));have HL:=A (show L.length+(zG s).length<=90000 by rw[zR];exact hl);clear h hs hl g1 i1 hB;go_enter func81,ntmps81;go_wp2_with(go_at_call 37;(with_reducible refine(Dr H.o (Lj HB.o G1.o.size) I1.o HQ.o HS.o HL.o (zR s)).mono ?_);rintro e w2 ⟨rfl,k1,k2⟩;have K1:=A k1;have K2:=A k2;clear k1 k2)
 exact⟨rfl,_,results_none rfl _ _ _,rfl,K1.o,(RD.Low.zH G1.o HB.o).trans K2.o⟩
end KW
end
section
open TR
namespace KW
open RD(In)
def nB{T:Eg}{size:Nat}(h:P.underlying t=some (.slice T))(p:Ed)(c:Nat)(w:Ea):Src P size t (.slice p 0 c) 0 [] w:=by
 refine⟨.inl ⟨T,h⟩,λ_=>?_,?_,?_,Oc,λ_ h=>by cases h⟩
 .simp[Builtin.lenOf]
 .cases p with
  | none=>simp[Builtin.firstCells]
  | some x=>have:=run_loadCells_list (P:=P) w x [] Oc;simpa[Builtin.firstCells] using this
 .cases p with
  | none=>simp[Builtin.firstCells]
  | some x=>have:=run_loadCells_list (P:=P) w.drew x [] Oc;simpa[Builtin.firstCells] using this
def Rk(w:Ea)(ty:Eg)(q p:Ed)(n c0 c:Nat)(h:n<=c0):(Builtin.append_ #[51,51] ty #[.slice q n c0,.slice p 0 c]).run prog w = .ok (.slice q n c0) w:=by
 obtain⟨i,hi⟩:∃i,Tryz.prog.info? 5=some i:=LM.1 U;exact run_append_nothing w 51 51 ty 5 i RD.under51 hi q n c0 h _ (nB RD.under51 p c w)
def vf(w:Ea){ops:Ep}{rest:Er}{o:Oper}{a:Act}{Q:Eo}(b:o.guard=none)(s x:Ev)(t:Eg)
  (ho:o.op = .call { callee:=.builtin .append,args:=#[s,x],argTypes:=#[t,t] }) (v u:Ei) (hs:a.eval s=v) (hx:a.eval x=u) {v':Ei}{w':Ea}
  (hr:(Builtin.append_ #[t,t] o.type #[v,u]).run P w = .ok v' w') (h:wpList P ops Q rest (a.put o.dst v') w'):wpList P ops Q (o::rest) a w:=by
 refine wpList_plain b λK hK=>?_;unfold Oper.wp execOp;simp only[ho,resolve,invoke,builtin,Lg,Ln,Li,map_toArray,Aw,map_nil,hs,hx,hr];exact hK _ _ h
def He{B:Nat}{q:Ed}{L:Eb}(h:jU B w (.slice q n c) L):n<=c:=by
 by_cases a:L=[]
 .have:=h.1 a;cases this;exact Lh _
 .obtain⟨x,e,_⟩:=h.2 a;cases e;omega
def SS{B:Nat}{L:Eb}(h:Wr B w b L):Calls prog 38 #[.pointer (some ⟨b,0,none⟩),.slice p 0 c] w (KF B w b L):=by
 obtain⟨q,n,c0,hr,hb,hn⟩:=h.ex;obtain⟨h1,h2⟩:=yj hr;have hcap:=He hb;have HX:=A (And.intro hr (And.intro hb (And.intro h.low hn)));have HC:=A hcap;have H1:=A h1;clear h hr hb hn hcap;go_enter func38,ntmps38;go_wp2_with(at_builtin;refine vf _ rfl _ _ 51 rfl _ _ rfl rfl (Rk _ _ _ _ _ _ _ HC.o) ?_)
 refine⟨rfl,_,results_none rfl _ _ _,rfl,⟨⟨_,_,_,RD.Cb HX.o.1,RD.mT HX.o.2.1 HX.o.1 C,HX.o.2.2.2⟩,HX.o.2.2.1⟩,RD.CJ _ HX.o.2.2.1,λc hc hn _=>(KQ.jW _ _ _ _).1 c hc hn⟩
def uint_zero{B:Nat}{L:Eb}(h:Wr B w b L)(a:B<=w.heap.size)(hl:L.length<=90000):Calls prog 36 #[.pointer (some ⟨b,0,none⟩),.int .u64 0] w (KF B w b (L++Go.AuditPlain.put 0)):=RD.uint_w (v:=0) h a C hl
def Hd{B:Nat}{L:Eb}(h:Wr B w b L)(hB:B<=w.heap.size)(hl:L.length<=90000):Calls prog 37 #[.pointer (some ⟨b,0,none⟩),.slice p 0 c] w (XU B w b (L++zm [])):=by
 have H:=A h;have HB:=A hB;have HE:=A hl;clear h hB hl;go_enter func37,ntmps37
 go_wp2_with(first
  | (go_at_call 36;(with_reducible refine(uint_zero H.o HB.o HE.o).mono ?_);rintro e w1 ⟨rfl,k1,k2,k3⟩;have K1:=A k1;have K2:=A k2;clear k1 k2 k3)
  | (go_at_call 38;(with_reducible refine(SS K1.o).mono ?_);rintro e w2 ⟨rfl,k1,k2,_⟩;have L1:=A k1;have L2:=A k2;clear k1 k2))
 refine⟨rfl,_,results_none rfl _ _ _,rfl,?_,K2.o.trans L2.o⟩;have:=L1.o;rwa[show L++Go.AuditPlain.put 0=L++zm [] by unfold zm;simp]at this
def IB{B:Nat}{L:Eb}{s:Ee}(h:Wr B w b L)(hB:B<=w.heap.size)(hs:s.size=0)(hl:L.length<=90000):Calls prog 81 #[.pointer (some ⟨b,0,none⟩),.string s] w (XU B w b (L++zm (zG s))):=by
 obtain⟨cap,w1,hcv,g1,i1⟩:=P1 w s;rw[hs]at hcv;have H:=A (RD.Zj h g1);have HB:=A hB;have G1:=A g1;have HS:RowKit.Hid (zG s=[]):=A (Ax (by rw[zR];exact hs));have HL:=A hl;clear h hs hl g1 i1 hB;go_enter func81,ntmps81;go_wp2_with(go_at_call 37;(with_reducible refine(Hd H.o (Lj HB.o G1.o.size) HL.o).mono ?_);rintro e w2 ⟨rfl,k1,k2⟩;have K1:=A k1;have K2:=A k2;clear k1 k2)
 exact⟨rfl,_,results_none rfl _ _ _,rfl,by rw[HS.o];exact K1.o,(RD.Low.zH G1.o HB.o).trans K2.o⟩
def zb3{B:Nat}{L:Eb}{s:Ee}(h:Wr B w b L)(a:B<=w.heap.size)(hl:L.length+s.size<=90000):Calls prog 81 #[.pointer (some ⟨b,0,none⟩),.string s] w (XU B w b (L++zm (zG s))):=by
 by_cases hs:s.size=0
 .exact IB h a hs I
 .exact IA h a hs hl
end KW
end
section
open TR
open Go.AuditPlain(put)
namespace KW
open RD(In)
def zdz(w:Ea)(hx:x<256):In (w.alloc (.cells #[.int .u8 (x:Nat)] 5)) (some ⟨w.heap.size,0,none⟩) [x]:=by
 refine⟨λy a=>by rw[Lu]at a;subst a;exact hx,λ_=>⟨_,_,rfl,λi y a=>?_⟩⟩;have hi:i=0:=by have:=(LL.1 a).1;simp at this;exact this
 subst hi;cases a;unfold World.cell?;rw[show(w.alloc (.cells #[.int .u8 (x:Nat)] 5)).heap[w.heap.size]?=_ from heap_alloc_new w _];rfl
def Cm{B:Nat}{L:Eb}(hv:(x:Int)=v)(hx:x<256)(h:Wr B w b L)(a:B<=w.heap.size)(hl:L.length<=90000) :
  Calls prog 38 #[.pointer (some ⟨b,0,none⟩),.slice (some ⟨w.heap.size,0,none⟩) 1 c] (w.alloc (.cells #[.int .u8 v] 5)) (KF B (w.alloc (.cells #[.int .u8 v] 5)) b (L++[x])):=by
 subst hv;exact RD.sr (M:=[x]) (RD.Zj h (zc _ _)) (Lj a (zc w _).size) (zdz w hx) Oc (by simp;omega)
def c1:((1:Nat):Int)=1:=rfl
def c0:((0:Nat):Int)=0:=rfl
def zed{B:Nat}{L:Eb}{f:Bool}(h:Wr B w b L)(hB:B<=w.heap.size)(hl:L.length<=90000):Calls prog 84 #[.pointer (some ⟨b,0,none⟩),.bool f] w (XU B w b (L++zT f)):=by
 have H:=A h;have HB:=A hB;have HE:=A hl;clear h hB hl
 cases f with
 | true=>
  go_enter func84,ntmps84
  go_wp2_with(go_at_call 38;(with_reducible refine(Cm c1 C H.o HB.o HE.o).mono ?_);rintro e w2 ⟨rfl,k1,k2,_⟩;have L1:=A k1;have L2:=A k2;clear k1 k2)
  exact⟨rfl,_,results_none rfl _ _ _,rfl,L1.o,(RD.Low.zH (zc _ _) HB.o).trans L2.o⟩
 | false=>
  go_enter func84,ntmps84
  go_wp2_with(go_at_call 38;(with_reducible refine(Cm c0 C H.o HB.o HE.o).mono ?_);rintro e w2 ⟨rfl,k1,k2,_⟩;have L1:=A k1;have L2:=A k2;clear k1 k2)
  exact⟨rfl,_,results_none rfl _ _ _,rfl,L1.o,(RD.Low.zH (zc _ _) HB.o).trans L2.o⟩
end KW
end
section
open TR
open Go.AuditPlain(put jT)
namespace KW
open RD(In)
def oG:∀(k u:Nat),u<128 ^ k->(hi u).length<=k
 | 0,u,h=>by rw[show u=0 by simpa using h,jT];exact Lh _
 | k+1,u,h=>by
  by_cases a:u=0
  .rw[a,jT];exact zero_le _
  .rw[QL a,Lm];have:=oG k (u / 128) (by rw[Nat.pow_succ]at h;omega);show(hi (u / 128)).length+1<=k+1;omega
def jA{v:Nat}(h:v<18446744073709551616):(put v).length<=11:=by
 unfold put;rw[Lm];have:=oG 10 (v / 128) (AX (div_le_self _ _) (Nat.lt_trans h C));show(hi (v / 128)).length+1<=11;omega
def uint_w{B:Nat}{L:Eb}(h:Wr B w b L)(hB:B<=w.heap.size){v:Nat}(hv:v<18446744073709551616)(hlen:L.length<=90000):Calls prog 36 #[.pointer (some ⟨b,0,none⟩),.int .u64 (v:Nat)] w (KF B w b (L++put v)):=by
 have H:=A h;have HB:=A hB;have HV:=A hv;have HE:=A hlen;clear h hB hv hlen;go_enter func36,ntmps36
 go_wp2_with(first
  | (go_at_call 86;(with_reducible refine(GR.fX HV.o w).mono ?_);rintro e w1 ⟨g1,u,bb,rfl,hn⟩;obtain⟨bq,oq,cq,rfl,hi,_,_⟩:=RD.Cz hn RD.yK;have G1:=A g1;have HI:=A hi;clear g1 hn hi)
  | (go_at_call 38;(with_reducible refine(RD.sr (RD.Zj H.o G1.o) (Lj HB.o G1.o.size) HI.o (RD.eP _) (by have:=jA HV.o;have:=HE.o;omega)).mono ?_);rintro e w2 ⟨rfl,k1,k2,k3⟩;have K1:=A k1;have K2:=A k2;have K3:=A k3;clear k1 k2 k3))
 refine⟨rfl,_,results_none rfl _ _ _,rfl,K1.o,(RD.Low.zH G1.o HB.o).trans K2.o,RD.tY (RD.Bv H.o).choose_spec G1.o K3.o⟩
end KW
end
section
open TR
open Go.AuditPlain(put)
namespace KW
open RD(In)
def uint_i{B:Nat}{L:Eb}(h:Wr B w b L)(a:B<=w.heap.size){v:Nat}{i:Int}(hi:(v:Int)=i)(hv:v<18446744073709551616)(hlen:L.length<=90000):Calls prog 36 #[.pointer (some ⟨b,0,none⟩),.int .u64 i] w (KF B w b (L++put v)):=by
 subst hi;exact uint_w h a hv hlen
def zgt{B:Nat}{L:Eb}(h:Wr B w b L)(hB:B<=w.heap.size){n:Int}(h1:-9223372036854775808<=n)(h2:n<=9223372036854775807)(hlen:L.length<=90000):Calls prog 83 #[.pointer (some ⟨b,0,none⟩),.int .i64 n] w (XU B w b (L++qs n)):=by
 have H:=A h;have HB:=A hB;have HE:=A hlen;clear h hB hlen;by_cases hn:n<0
 .have hz:zig n=2*(-(n+1)).toNat+1:=O (Int.not_le.2 hn);have hv:zig n<18446744073709551616:=by rw[hz];omega
  go_enter func83,ntmps83
  go_wp2_with(go_at_call 36;(with_reducible refine(uint_i (v:=zig n) H.o HB.o (by rw[hz];omega) hv HE.o).mono ?_);rintro e w2 ⟨rfl,k1,k2,_⟩;have L1:=A k1;have L2:=A k2;clear k1 k2)
  exact⟨rfl,_,results_none rfl _ _ _,rfl,L1.o,L2.o⟩
 .have hz:zig n=2*n.toNat:=Y (Int.not_lt.1 hn);have hv:zig n<18446744073709551616:=by rw[hz];omega
  go_enter func83,ntmps83
  go_wp2_with(go_at_call 36;(with_reducible refine(uint_i (v:=zig n) H.o HB.o (by rw[hz];omega) hv HE.o).mono ?_);rintro e w2 ⟨rfl,k1,k2,_⟩;have L1:=A k1;have L2:=A k2;clear k1 k2)
  exact⟨rfl,_,results_none rfl _ _ _,rfl,L1.o,L2.o⟩
end KW
end
section
open TR
open Go.AuditPlain(put)
namespace KW
structure Qd(B:Nat)(w:Ea)(p:Ed)(n:Nat)(l:Eb):Prop where
 len:l.length=n
 few:n<=1000
 cell:∀j,j<n->∃b o,p=some ⟨b,o,none⟩/\b<B/\w.cell? ⟨b,o+j,none⟩=some (.int .i64 (l.getD j 0:Nat))
def Qd.low{B:Nat}(h:Qd B w p n l)(k:Low B w w2):Qd B w2 p n l:=
 ⟨h.len,h.few,λj a=>by obtain⟨b,o,e,hb,hc⟩:=h.cell j a;exact⟨b,o,e,hb,by rw[cell?_of_block (k.old b hb)];exact hc⟩⟩
def Vb{o:En}(h:AtS w (.slice p n c) o)(few:n<=1000):Qd w.heap.size w p n (zI o):=by
 cases o with
 | none=>
  cases h
  exact⟨rfl,few,λj a=>Ld a (not_lt_zero _)⟩
 | some s=>
  obtain⟨x,arr,fz,k⟩:=h;have e:=k.is;simp only[Value.slice.injEq]at e;obtain⟨rfl,rfl,rfl⟩:=e;refine⟨zR s,few,λj a=>⟨x.1,x.2.1,rfl,(LO.1 k.row).1,?_⟩⟩;have hd:s.data[j]?=some (s.data[j]' a):=Av a
  have hl:(zI (some s)).getD j 0=(s.data[j]' a).toNat:=by
   rw[Aq,show(zI (some s))[j]?=(zG s)[j]? from rfl,JC,hd];rfl
  unfold World.cell?;rw[k.row,hl];exact k.cell j _ hd
def sA(h:l[j]?=some x):AuditPlain.qf (l.take (j+1))=AuditPlain.qf (l.take j)++put x:=by
 unfold AuditPlain.qf;rw[take_add_one,h,List.flatMap_append];simp
def VZ(h:∀x∈l,x<18446744073709551616):(AuditPlain.qf l).length<=11*l.length:=by
 unfold AuditPlain.qf
 induction l with
 | nil=>exact Lh _
 | cons x l a=>
  have:=a λy b=>h y (LP _ b);have:=jA (h x LG);rw[flatMap_cons,Lm,Am];omega
def zeR(B:Nat)(w0:Ea)(b:Nat)(L l:Eb)(k:Nat)(i:Ei)(w:Ea):Prop:=∃j:Nat,j+k=l.length/\i = .int .i64 j/\Wr B w b (L++(put l.length++AuditPlain.qf (l.take j)))/\Low B w0 w
def zdQ{B:Nat}{L:Eb}(h:Wr B w b L)(hB:B<=w.heap.size)(hn:Qd B w p n l)(hlt:∀x∈l,x<9223372036854775808)(hlen:L.length<=70000):Calls prog 85 #[.pointer (some ⟨b,0,none⟩),.slice p n c] w (XU B w b (L++numbers l)):=by
 have e:=hn.len;subst e;have H:=A h;have HB:=A hB;have HN:=A hn;have HL:=A hlt;have HE:=A hlen;have few:=A hn.few;have hw:IntKind.u64.wrap (l.length:Int)=(l.length:Int):=u64_in _ (by have:=hn.few;omega);clear h hB hn hlt hlen;go_enter func85,ntmps85;go_wp2_with(go_at_call 36;(with_reducible refine(uint_w H.o HB.o (v:=l.length) (by have:=few.o;omega) (by have:=HE.o;omega)).mono ?_);rintro e w1 ⟨rfl,k1,k2,_⟩;have K1:=A k1;have K2:=A k2;clear k1 k2)
 clear hw;go_loopg [13] l.length (λk i wr=>zeR B w b L l k i wr)
 case atStart=>exact⟨0,I,rfl,by have:=K1.o;simpa[AuditPlain.qf] using this,K2.o⟩
 case round=>
  obtain⟨j,hj,rfl,h1,h2⟩:=hrel;have H1:=A h1;have H2:=A h2;clear h1 h2
  cases gk with
  | zero=>
   have hjm:¬((j:Int)<(l.length:Int)):=by omega
   have hjl:RowKit.Hid (j=l.length):=A I;go_wp2;refine⟨rfl,_,results_none rfl _ _ _,rfl,?_,H2.o⟩;have:=H1.o;rw[hjl.o,take_length]at this
   exact this
  | succ k=>
   have hjm:(j:Int)<(l.length:Int):=by omega
   obtain⟨b2,o2,rfl,hb2,hc⟩:=(HN.o.low H2.o).cell j I;obtain⟨x,hx⟩:∃x,l[j]?=some x:=⟨_,Ly I⟩
   have hxd:l.getD j 0=x:=by rw[Aq,hx];rfl
   rw[hxd]at hc;have HX:=A hx;have hxl:x<9223372036854775808:=HL.o x (LX hx);have hw:IntKind.u64.wrap (x:Int)=(x:Int):=u64_in _ I;have hw64:RowKit.wrap64 ((j:Int)+1)=(j:Int)+1:=by unfold RowKit.wrap64;have:=few.o;omega
   have HXL:=A hxl;have HW64:=A hw64;clear hx hxd hxl hb2 hw64
   have hlen:RowKit.Hid ((L++(put l.length++AuditPlain.qf (l.take j))).length<=90000):=A (by
    rw[Lm,Lm];have h1:=jA (v:=l.length) (by have:=few.o;omega);have h2:=VZ (l:=l.take j) λy hy=>Nat.lt_trans (HL.o y (mem_of_mem_take hy)) C;have h3:(l.take j).length<=1000:=by rw[Ar];have:=few.o;omega
    have:=HE.o
    omega)
   go_wp2_with(go_at_call 36;(with_reducible refine(uint_w H1.o (Lj HB.o H2.o.size) (v:=x) (by have:=HXL.o;omega) hlen.o).mono ?_);rintro e w3 ⟨rfl,k1,k2,_⟩;have K3:=A k1;have K4:=A k2;clear k1 k2)
   go_roundg k
   case measure=>omega
   case rel=>exact⟨j+1,I,(by rw[HW64.o];rfl),(by rw[sA HX.o];have:=K3.o;simpa[Ae] using this),H2.o.trans K4.o⟩
end KW
end
section
open TR
namespace NV
def KwP(w:Ea)(e:Ew)(w2:Ea):Prop:=∃b c,e = .returned (.slice (some ⟨b,0,none⟩) 20 c)/\Grown w w2/\∀i,i<20->∃s,w2.cell? ⟨b,i,none⟩=some (.string s)
def TE(w:Ea):Calls prog 132 #[] w (KwP w):=by
 go_enter func132,ntmps132
 go_wp2
 go_ret
 refine⟨w.heap.size,20,rfl,zc w _,λi hi=>?_⟩;have e:(w.alloc (Obj.cells #[Value.string ⟨#[97,108,108]⟩,Value.string ⟨#[97,110,100]⟩,Value.string ⟨#[97,115,115,105,103,110]⟩,Value.string ⟨#[98,121]⟩,Value.string ⟨#[99,111,117,110,116]⟩,Value.string ⟨#[100,101,99,108,97,114,101]⟩,Value.string ⟨#[100,121,110,97,109,105,99]⟩,Value.string ⟨#[101,110,102,111,114,99,101]⟩,Value.string ⟨#[102,97,108,115,101]⟩,Value.string ⟨#[102,111,114]⟩,Value.string ⟨#[105,102]⟩,Value.string ⟨#[109,101,109,98,101,114,115]⟩,Value.string ⟨#[110,111,110,101]⟩,Value.string ⟨#[110,111,116]⟩,Value.string ⟨#[111,110]⟩,Value.string ⟨#[111,114]⟩,Value.string ⟨#[114,101,118,111,107,101]⟩,Value.string ⟨#[115,116,97,116,105,99]⟩,Value.string ⟨#[116,114,117,101]⟩,Value.string ⟨#[117,115,101,114,115]⟩] 9)).heap[w.heap.size]?=some (.cells _ 9 (0,0)):=heap_alloc_new w _;unfold World.cell?;rw[e]
 match i,hi with
 | 0,_|1,_|2,_|3,_|4,_|5,_|6,_|7,_|8,_|9,_|10,_|11,_|12,_|13,_|14,_|15,_|16,_|17,_|18,_|19,_=>exact⟨_,rfl⟩
 | k+20,h=>exact Ld h I
def ziy(w:Ea)(e:Ew)(w2:Ea):Prop:=∃b:Bool,e = .returned (.bool b)/\Grown w w2
def zkS(w:Ea)(e:Ew)(w2:Ea):Prop:=∃i:Int,e = .returned (.int .i64 i)/\Grown w w2
def wS{s:Ee}(hn:n<=1000)(hc:∀i,i<n->∃t,w.cell? ⟨b,i,none⟩=some (.string t)):Calls prog 187 #[.slice (some ⟨b,0,none⟩) n c,.string s] w (zkS w):=by
 have HC:=A hc;clear hc;go_enter func187,ntmps187;go_wp2
 go_loopg [8] n (λg i wr=>wr=w/\∃j:Nat,j+g=n/\i = .int .i64 j)
 case atStart=>exact⟨rfl,0,I,rfl⟩
 case round=>
  obtain⟨rfl,j,hj,rfl⟩:=hrel
  cases gk with
  | zero=>
   have hjm:¬((j:Int)<(n:Int)):=by omega
   go_wp2
   go_ret
   exact⟨-1,rfl,RD.qP _⟩
  | succ g=>
   have hjm:(j:Int)<(n:Int):=by omega
   obtain⟨t,ht⟩:=HC.o j I
   cases hst:(s.toList==t.toList) with
   | true=>
    go_wp2
    go_ret
    exact⟨j,rfl,RD.qP _⟩
   | false=>
    go_wp2
    go_roundg g
    case measure=>omega
    case rel=>exact⟨rfl,j+1,I,by go_num⟩
def iT{s:Ee}(hn:n<=1000)(hc:∀i,i<n->∃t,w.cell? ⟨b,i,none⟩=some (.string t)):Calls prog 131 #[.slice (some ⟨b,0,none⟩) n c,.string s] w (ziy w):=by
 have HC:=A hc;clear hc;go_enter func131,ntmps131;go_wp2_with(go_at_call 187;(with_reducible refine(wS hn HC.o).mono ?_);rintro e w1 ⟨i,rfl,hg⟩;have G1:=A hg;clear hg)
 go_ret
 exact⟨_,rfl,G1.o⟩
end NV
end
section
open TR
namespace NV
def Vh(c:Nat):Bool:=decide (97<=c)&&decide (c<=122)
def fR(c:Nat):Bool:=Vh c||(decide (48<=c)&&decide (c<=57))||decide (c=95)
def Rc{b b':Bool}(h:b'=b):Ending.returned (.bool b')=Ending.returned (.bool b)/\w=w:=by subst h;exact⟨rfl,rfl⟩
def Wq:Calls prog 133 #[.int .u8 (c:Nat)] w λe w2=>e = .returned (.bool (Vh c))/\w2=w:=by
 go_enter func133,ntmps133
 go_wp2
 all_goals go_ret
 all_goals refine Rc ?_
 all_goals unfold Vh
 all_goals(rw[Bool.eq_iff_iff];simp;try omega)
def wR{lb:Nat}{f:Ei}(hf:f = .func (.func 133) #[] #[])(hc:w.cell? ⟨lb,0,none⟩=some f):Calls prog 134 #[.int .u8 (c:Nat),.pointer (some ⟨lb,0,none⟩)] w λe w2=>e = .returned (.bool (fR c))/\w2=w:=by
 subst hf
 cases hl:Vh c with
 | true=>
  go_enter func134,ntmps134
  go_wp2_with(go_at_call 133;(with_reducible refine Wq.mono ?_);rintro e w1 ⟨rfl,rfl⟩)
  all_goals go_ret
  all_goals refine Rc ?_
  all_goals(unfold fR;rw[hl];rfl)
 | false=>
  go_enter func134,ntmps134
  go_wp2_with(go_at_call 133;(with_reducible refine Wq.mono ?_);rintro e w1 ⟨rfl,rfl⟩)
  all_goals go_ret
  all_goals refine Rc ?_
  all_goals(unfold fR;rw[hl,Bool.false_or,Bool.eq_iff_iff];simp;try omega)
def dA{b:Bool}(h:fR c=b)(hc:w.cell? ⟨n,0,none⟩=some (.func (.func 133) #[] #[])):Calls prog 134 #[.int .u8 (c:Nat),.pointer (some ⟨n,0,none⟩)] w λe w2=>e = .returned (.bool b)/\w2=w:=by
 subst h;exact wR rfl hc
def tq{b:Bool}(h:Vh c=b):Calls prog 133 #[.int .u8 (c:Nat)] w λe w2=>e = .returned (.bool b)/\w2=w:=by
 subst h;exact Wq
end NV
end
section
open TR
open KQ(DAt yf yr qB qN)
namespace GT
def kR(n:Nat)(D:Nat->Nat->Nat):List Value:=(List.range (32*(n+1))).map λi=>.int .u8 (D (i / 32) (i % 32):Nat)
def Gg(n:Nat)(D:Nat->Nat->Nat):(kR n D).length=32*(n+1):=by unfold kR;rw[Ls,As]
def Gh{D:Nat->Nat->Nat}(a:k<=n)(b:j<32):(kR n D)[k*32+j]?=some (.int .u8 (D k j:Nat)):=by
 unfold kR;rw[Lw,Ah I];show some (Value.int .u8 (D ((k*32+j) / 32) ((k*32+j) % 32):Nat))=_;rw[show(k*32+j) / 32=k by omega,show(k*32+j) % 32=j by omega]
def Kf(n:Nat)(D:Nat->Nat->Nat)(f:Ek):kR n D++zB 32 f=kR (n+1) (λk=>if k=n+1 then f else D k):=by
 unfold kR zB;rw[show 32*(n+1+1)=32*(n+1)+32 by omega,List.range_add,Az,LZ];congr 1
 .refine Ab λi hi=>?_;have hi:=Lr.1 hi;show _=Value.int .u8 ((if i / 32=n+1 then f else D (i / 32)) (i % 32):Nat);rw[O I]
 .refine Ab λi hi=>?_;have hi:=Lr.1 hi;show _=Value.int .u8 ((if(32*(n+1)+i) / 32=n+1 then f else D ((32*(n+1)+i) / 32)) ((32*(n+1)+i) % 32):Nat);rw[Y I,show(32*(n+1)+i) % 32=i by omega]
structure qY(lo:Nat)(w:Ea)(v:Ei)(es:List Ent)(D:Nat->Nat->Nat):Prop where
 ex:∃(x h:Ej) (p:Ed) (c:Nat),v = .pointer (some ⟨x.1,x.2.1,none⟩)/\zx prog w x 96 [.slice p es.length c,.slice (some ⟨h.1,h.2.1,none⟩) (es.length+1) (es.length+1+h.2.2)]/\zx prog w h 29 (kR es.length D)/\yq 42 14 lo w (.slice p es.length c) es.length (cellsOf es)/\lo<=x.1/\lo<=h.1/\(es.length=0->p=none/\c=0)
 lists:Zw w es
 lt:∀k i,D k i<256
def qY.grown{v:Ei}{D:Nat->Nat->Nat}(h:qY lo w v es D)(g:Grown w w2):qY lo w2 v es D:=by
 obtain⟨x,hd,p,c,e,d,b,a,j,i,f⟩:=h.ex;exact⟨⟨x,hd,p,c,e,qi g d,qi g b,a.grown g,j,i,f⟩,(qh.zH g).lists h.lists,h.lt⟩
def qY.cells{D:Nat->Nat->Nat}(h:qY lo w (.pointer (some a)) es D):∃b o p c hb f hc,a=⟨b,o,none⟩/\w.cell? ⟨b,o,none⟩=some (.slice p es.length c)/\w.cell? ⟨b,o+1,none⟩=some (.slice (some ⟨hb,f,none⟩) (es.length+1) hc)/\es.length+1<=hc/\yq 42 14 lo w (.slice p es.length c) es.length (cellsOf es)/\(∀j v,(kR es.length D)[j]?=some v->w.cell? ⟨hb,f+j,none⟩=some v)/\(es.length=0->p=none/\c=0):=by
 obtain⟨x,hd,p,c,e,d,i,g,_,_,k⟩:=h.ex;cases e;have h1:=TR.cell_of_row d (j:=0) rfl;have h2:=TR.cell_of_row d (j:=1) rfl;exact⟨x.1,x.2.1,p,c,hd.1,hd.2.1,_,rfl,h1,h2,Al _ _,g,λj v l=>TR.cell_of_row i l,k⟩
def tQ{hb m:Nat}{D:Nat->Nat->Nat}(hc:∀j v,(kR n D)[j]?=some v->w.cell? ⟨hb,m+j,none⟩=some v)(d:k<=n)(c:cs=zB 32 (D k)):w.rangeAt hb (m+k*32) cs:=by
 intro j v b;rw[c]at b;have a:j<32:=by have:=(LL.1 b).1;rwa[KT.qT]at this
 unfold zB at b;rw[Lw,Ah a]at b;cases b;rw[AU];exact hc _ _ (Gh d a)
def zgk{D:Nat->Nat->Nat}(h:qY lo w (.pointer (some a)) es D):Calls prog 13 #[.pointer (some a)] w λe w2=>e = .returned (.int .i64 (es.length:Nat))/\w=w2:=by
 obtain⟨b,o,p,c,hb,ho,hc,rfl,h1,_⟩:=h.cells;clear h;go_enter func13,ntmps13;go_wp2
 go_ret
 exact⟨rfl,rfl⟩
def eg{d:Es}{ops:Ep}{rest:Er}{o:Oper}{a:Act}{Q:Eo}(x:Ev){off:Nat}(e:Tryz.prog.underlying t=some d)(hd:d.isRow=true)(hi:(Tryz.prog.info? t).map (·.size)=some cs.length)(f:o.op = .load t x)(H:w.rangeAt b off cs)(hw:Region.wanted o (yielded ops a.tmps)=true)
  (hx:a.eval x = .pointer (some ⟨b,off,none⟩)) (hK:wpList prog ops Q rest (a.put o.dst (.agg cs.toArray)) w):wpList prog ops Q (o::rest) a w:=
 wpList_step λK c=>by
  rw[Y hw];exact wp_load_mid t x f b off hx cs _ H e hd hi (c _ _ hK)
def aC{fn:Func}{p q:Tmp}{ty:Eg}(h:fn.results = #[.cell p ty,.tmp q])(tmps:Eh)(w:Ea)(g:Nat)(cs:Ec)(d:Es)(v:Ei)
  (hp:tmps.getD p undef = .pointer (some ⟨g,0,none⟩)) (hq:tmps.getD q undef=v) (hc:w.rangeAt g 0 cs) (hu:P.underlying ty=some d) (hd:d.isRow=true) (hi:(P.info? ty).map (·.size)=some cs.length) :
  (results fn tmps).run P w = .ok (.tuple #[.agg cs.toArray,v]) w:=by
 have hl:=run_loadVar_mid (P:=P) w g 0 ty cs d hc hu hd hi;rw[results_cell_tmp (fn:=fn) (p:=p) (u:=q) (ty:=ty) h,hp,hq];simp[asAddr,Result.andThen,hl]
def zcG(w:Ea)(cs:Ec)(e:Ew)(w2:Ea):Prop:=e = .returned (.tuple #[.agg cs.toArray,.bool true])/\Grown w w2
def zj3{D:Nat->Nat->Nat}(h:qY lo w (.pointer (some a)) es D)(hk:k<=es.length)(hcs:cs=zB 32 (D k)):Calls prog 10 #[.pointer (some a),.int .i64 (k:Nat)] w (zcG w cs):=by
 obtain⟨b,o,p,c,hb,ho,hc,rfl,h1,h2,hcl,_,h3,_⟩:=h.cells;have HR:=A (tQ h3 hk hcs);have HC:=A hcs;have h1':=RD.zz h1 (zc w (.cells Oe 29));have h2':=RD.zz h2 (zc w (.cells Oe 29));have hn1:¬((k:Int)<0):=by omega
 have hn2:¬((es.length:Int)+1<=(k:Int)):=by omega
 clear h h1 h2 h3 hcs;go_enter func10,ntmps10
 go_wp2_with(first
  | (refine eg _ under29 rfl ?_ rfl (KQ.kq HR.o (zc _ _)) (by rfl) rfl ?_;case refine_1=>exact Qz HC.o)
  | (refine yr _ _ (yf w rfl) HC.o rfl rfl rfl rfl ?_;intro w4 k1 k2;have R4:=A k1;have T4:=A k2;clear k1 k2))
 have GG:Grown w w4:=qB (zc _ _) T4.o λk hk=>by have hk:k=w.heap.size:=hk;omega
 try simp only[Exit.inBlock,Exit.then]
 refine bodyPost_ret (aC (p:=4) (q:=5) (ty:=29) rfl _ w4 w.heap.size cs _ (.bool true) rfl rfl R4.o under29 rfl (Qz HC.o)) rfl ⟨rfl,GG⟩
end GT
end
section
open TR
open KQ(DAt yf yr qB qN)
namespace GT
def U5(w:Ea)(o:Obj):w.heap.size<(w.alloc o).heap.size:=by unfold World.alloc;simp
def zgh{a:Nat}(h:a<b):¬a=b:=ne_of_lt h
def zj2{D:Nat->Nat->Nat}(h:qY lo w (.pointer (some a)) es D)(b:cs=zB 32 (D es.length)):Calls prog 10 #[.pointer (some a),.int .i64 (es.length:Nat)] w (zcG w cs):=zj3 h (Lh _) b
def ziw(w:Ea)(cs:Ec)(e:Ew)(w2:Ea):Prop:=e = .returned (.agg cs.toArray)/\Grown w w2
def wX{D:Nat->Nat->Nat}(h:qY lo w (.pointer (some a)) es D)(hcs:cs=zB 32 (D es.length)):Calls prog 8 #[.pointer (some a)] w (ziw w cs):=by
 have H:=A h;have HC:=A hcs;clear h hcs;go_enter func8,ntmps8
 go_wp2_with(first
  | (go_at_call 13;(with_reducible refine(zgk (H.o.grown (zc _ _))).mono ?_);rintro e w1 ⟨rfl,rfl⟩)
  | (go_at_call 10;(with_reducible refine(zj2 (H.o.grown (zc _ _)) HC.o).mono ?_);rintro e w2 ⟨rfl,k1⟩;have G2:=A k1;have D2:=A ((yf w rfl).grown k1);clear k1)
  | (refine yr _ _ (yf w2 rfl) HC.o rfl rfl rfl rfl ?_;intro w4 k1 k2;have R4:=A k1;have D4:=A ((D2.o.grown (zc _ _)).KX k2 (zgh (LK (U5 _ _) G2.o.size)));have T4:=A k2;clear k1 k2)
  | (refine eg _ under29 rfl ?_ rfl R4.o (by rfl) rfl ?_;case refine_1=>exact Qz HC.o)
  | (refine yr _ _ D4.o HC.o rfl rfl rfl rfl ?_;intro w5 k1 k2;have R5:=A k1;have T5:=A k2;clear k1 k2))
 have G4:Grown w w4:=qB (((zc _ _).trans' G2.o).trans' (zc _ _)) T4.o λk hk=>by have hk:k=_:=hk;have:=LK (U5 w _) G2.o.size;omega
 have GG:Grown w w5:=qB G4 T5.o λk hk=>by have hk:k=w.heap.size:=hk;omega
 try simp only[Exit.inBlock,Exit.then]
 exact bodyPost_ret (qN (p:=2) (ty:=29) rfl _ w5 w.heap.size cs _ rfl R5.o under29 rfl (Qz HC.o)) rfl ⟨rfl,GG⟩
end GT
end
section
open TR
namespace KW
open RD(In)
open KQ(Hv)
def zcK{B:Nat}{L:Eb}(h:Wr B w b L)(hq:k<B):k≠b/\∀a n m,w.cell? ⟨b,0,none⟩=some (.slice (some a) n m)->a.block≠k:=by
 obtain⟨p,n,c,f,hb,_⟩:=h.ex;have h1:=(RD.yj f).1;have hlow:=h.low;refine⟨I,λa n m e he=>?_⟩;rw[h1]at e;cases e;by_cases d:L=[]
 .have:=hb.1 d;cases this
 .obtain⟨x,e,_,g⟩:=hb.2 d;cases e;have he:x.1=k:=he;omega
structure iw(B:Nat)(w:Ea)(q c1 n2 c2:Nat)(a1 a2:Addr)(M1 M2:Eb):Prop where
 z1:w.cell? ⟨q,0,none⟩=some (.slice (some a1) 32 c1)
 z2:w.cell? ⟨q,1,none⟩=some (.slice (some a2) n2 c2)
 i1:In w (some a1) M1
 i2:In w (some a2) M2
 l1:M1.length=32
 l2:M2.length=n2
 ps:0<n2
 few:n2<=60000
 hq:q<B
 b1:a1.block<B
 b2:a2.block<B
def iw.up{B:Nat}{q c1:Nat}{c b:Addr}(h:iw B w q c1 n2 c2 c b M1 M2)(g:Grown w w2)(a:B<=n):iw n w2 q c1 n2 c2 c b M1 M2:=
 ⟨RD.zz h.z1 g,RD.zz h.z2 g,RD.ym h.i1 g,RD.ym h.i2 g,h.l1,h.l2,h.ps,h.few,LK h.hq a,LK h.b1 a,LK h.b2 a⟩
def iw.low{B:Nat}{q c1:Nat}{c b:Addr}(h:iw B w q c1 n2 c2 c b M1 M2)(k:Low B w w2):iw B w2 q c1 n2 c2 c b M1 M2:=
 ⟨by rw[cell?_of_block (a:=⟨q,0,none⟩) (k.old q h.hq)];exact h.z1,by rw[cell?_of_block (a:=⟨q,1,none⟩) (k.old q h.hq)];exact h.z2,
  RD.Nx h.i1 k λa e=>by cases e;exact h.b1,RD.Nx h.i2 k λa e=>by cases e;exact h.b2,h.l1,h.l2,h.ps,h.few,h.hq,h.b1,h.b2⟩
def Mw{B:Nat}{L M:Eb}(h:Wr B w b L)(f:B<=w.heap.size)(hi:In w (some a) M)(ha:a.block<B)(hn:M.length=n)(i:0<n)(hlen:L.length+n<=90000):Calls prog 37 #[.pointer (some ⟨b,0,none⟩),.slice (some a) n c] w (XU B w b (L++zm M)):=by
 have d:M≠[]:=λe=>by rw[e]at hn;simp at hn;omega
 obtain⟨b',g,e,_⟩:=hi.2 d;cases e;exact Dr h f hi (zcK h ha) d I hn
def YK(M1 M2:Eb)(j:Nat):List Nat:=if j=0 then[] else if j=1 then zm M1 else zm M1++zm M2
def zkG(w0:Ea)(b:Nat)(L M1 M2:Eb)(k:Nat)(i:Ei)(w:Ea):Prop:=∃j:Nat,j+k=2/\i = .int .i64 j/\Wr w0.heap.size w b (L++YK M1 M2 j)/\Low w0.heap.size w0 w
def lN{M:Eb}(h:M.length<=60000):(zm M).length<=M.length+11:=by
 unfold zm;rw[Lm];have:=jA (v:=M.length) I;omega
def Sq{L:Eb}(b:L.length<=20000)(h1:M1.length=32)(a:j<=1):(L++YK M1 M2 j).length<=20100:=by
 have:=lN (M:=M1) I;unfold YK;rw[Lm];split
 .show L.length+0<=_;omega
 .rw[Y I];omega
def Qx{u:Ea}(k:Low u.heap.size u w):Grown u w:=⟨k.old,k.size,k.tape,k.os,k.output⟩
def Ra{L:Eb}(a:∀y∈L,y<256)(h1:∀y∈M1,y<256)(h2:∀y∈M2,y<256):∀y∈L++YK M1 M2 2,y<256:=
 RD.jG a (RD.jG (RD.jG RD.yK h1) (RD.jG RD.yK h2))
def zfE(s:Ee):∀y∈zm (zG s),y<256:=RD.jG RD.yK (@ZF unk0 s)
def Cq{s:Ee}(hs:s.size<=1000)(h1:M1.length=32)(h2:M2.length=n2)(few:n2<=60000):(zm (zG s)++YK M1 M2 2).length<=100000:=by
 have a:=lN (M:=zG s) (by rw[zR];omega);have c:=lN (M:=M1) I;have b:=lN (M:=M2) I;rw[zR]at a;show(zm (zG s)++(zm M1++zm M2)).length<=_;rw[Lm,Lm];omega
def zw(w:Ea):World:=w.alloc (.cells (List.replicate 32 (Value.int .u8 0)).toArray 29)
def KJ(w:Ea):Grown w (zw w):=zc _ _
def zgy{L:Eb}(h:In w p L)(hn:L≠[]):∀a,p=some a->a.block<w.heap.size:=λa e=>by
 subst e;exact RD.tM h hn
def zcP(s:Ee)(M1 M2:Eb):zm (zG s)++YK M1 M2 2≠[]:=λh=>by
 have:=(AW.1 h).1;unfold zm at this;exact RD.eP _ (AW.1 this).1
def Pb{L:Eb}(h:In w p L):∀y∈L,y<256:=And.left h
def zdd(M1 M2:Eb)(X:Eb):X++YK M1 M2 0++zm M1=X++YK M1 M2 1:=by simp[YK]
def zdc(M1 M2:Eb)(X:Eb):X++YK M1 M2 1++zm M2=X++YK M1 M2 2:=by simp[YK]
def zfd(h:x<=20100):x+32<=90000:=by omega
def zfc(h:x<=20100)(k:n<=60000):x+n<=90000:=by omega
def zkM(w:Ea)(L:Eb)(e:Ew)(w2:Ea):Prop:=∃p n c,e = .returned (.slice p n c)/\L.length=n/\Grown w w2/\L.length<=c/\In w2 p L
def zf6{B:Nat}{L:Eb}(h:Wr B w b L)(d:∀y∈L,y<256)(hlen:L.length<=100000):Calls prog 39 #[.pointer (some ⟨b,0,none⟩)] w (zkM w L):=
 (RD.zca h d hlen).mono λ_ _ ⟨p,c,e,a,k2,k3,_⟩=>⟨p,_,c,e,rfl,a,k2,k3⟩
def zfe(t:kG w){L:Eb}(hn:L.length=n)(hi:In w p L)(hc:L.length<=c)(hl:L.length<=1000000)(hp:∀a,p=some a->a.block<w.heap.size):Calls prog 82 #[.slice p n c] w (Hv w):=by
 subst hn;exact KQ.Sx t hi hc hl hp
def Sz{s:Ee}(h:s.size<=1000):([]:List Nat).length+s.size<=90000:=by simp;omega
def Su{s:Ee}{q c1:Nat}{a1 a2:Addr}(t:kG w)(h:iw w.heap.size w q c1 n2 c2 a1 a2 M1 M2)(hs:s.size<=1000):Calls prog 31 #[.string s,.slice (some ⟨q,0,none⟩) 2 c] w (Hv w):=by
 have HT:=A t;have H:=A h;have HS:=A hs;clear t h hs;go_enter func31,ntmps31
 go_wp2_with(first
  | (go_at_call 35;(with_reducible refine RD.M0.mono ?_);rintro e w1 ⟨b,rfl,k1,k2⟩;have G1:RowKit.Hid (Grown (zw w) w1):=A k1;have W1:RowKit.Hid (Wr (zw w).heap.size w1 b []):=A k2;clear k1 k2)
  | (go_at_call 81;(with_reducible refine(zb3 W1.o G1.o.size (Sz HS.o)).mono ?_);rintro e w2 ⟨rfl,k1,k2⟩;have W2:=A k1;have L2:=A ((Low.zH G1.o (Lh _)).trans k2);clear k1 k2))
 go_loopg [14] 2 (λk i wr=>zkG (zw w) b (zm (zG s)) M1 M2 k i wr)
 case atStart=>exact⟨0,I,rfl,by have:=W2.o;simpa[YK] using this,L2.o⟩
 case round=>
  obtain⟨j,hj,rfl,h1,h2⟩:=hrel;have H1:=A h1;have H2:=A h2;have HZ:=A ((H.o.up (KJ w) (KJ w).size).low h2);clear h1 h2
  cases gk with
  | zero=>
   obtain rfl:j=2:=by omega
   go_wp2_with(first
    | (go_at_call 39;(with_reducible refine(zf6 H1.o (Ra (zfE s) (Pb HZ.o.i1) (Pb HZ.o.i2)) (Cq HS.o HZ.o.l1 HZ.o.l2 HZ.o.few)).mono ?_);rintro e w3 ⟨p3,n3,c3,rfl,k0,k1,k2,k3⟩;have N3:=A k0;have G3:=A ((Qx H2.o).trans' k1);have I3:=A (And.intro k3 k2);clear k0 k1 k2 k3)
    | (go_at_call 82;(with_reducible refine(zfe (KQ.jk HT.o ((KJ w).trans' G3.o)) N3.o I3.o.1 I3.o.2 (Lj (Cq HS.o HZ.o.l1 HZ.o.l2 HZ.o.few) C) (zgy I3.o.1 (zcP s M1 M2))).mono ?_);rintro e w4 ⟨⟨f,hf,rfl⟩,k2⟩;obtain⟨ds,hds⟩:∃ds,ds=zB 32 f:=⟨_,rfl⟩;rw[<- hds];have DS:=A hds;have F3:=A hf;have G4:=A (G3.o.trans' k2);have D4:=A ((KQ.yf w (z:=(List.replicate 32 (Value.int .u8 0)).toArray) rfl).grown (G3.o.trans' k2));clear k2 hds hf)
    | (refine KQ.yr _ _ D4.o DS.o rfl rfl rfl rfl ?_;intro w5 k1 k2;have R5:=A k1;have T5:=A k2;clear k1 k2))
   have GG:Grown w w5:=KQ.qB ((KJ w).trans' G4.o) T5.o λk hk=>by have hk:k=w.heap.size:=hk;omega
   try simp only[Exit.inBlock,Exit.then]
   refine bodyPost_ret (KQ.qN (p:=4) (ty:=29) rfl _ w5 w.heap.size ds _ rfl R5.o under29 rfl (Qz DS.o)) rfl ?_
   exact⟨⟨f,F3.o,by rw[DS.o]⟩,GG⟩
  | succ k=>
   have hjm:(j:Int)<(2:Int):=by omega
   have hb0:=Sq (L:=zm (zG s)) (M1:=M1) (M2:=M2) (j:=j) (by have:=lN (M:=zG s) (by rw[zR];have:=HS.o;omega);rw[zR]at this;have:=HS.o;omega) HZ.o.l1 I;have HB0:=A hb0;clear hb0;have hj01:j=0\/j=1:=by omega
   rcases hj01 with rfl|rfl
   .have z1:=HZ.o.z1
    go_wp2_with(first
     | (go_at_call 37;(with_reducible refine(Mw H1.o H2.o.size HZ.o.i1 HZ.o.b1 HZ.o.l1 C (zfd HB0.o)).mono ?_);rintro e w3 ⟨rfl,k1,k2⟩;have H3:=A k1;have L3:=A k2;clear k1 k2))
    go_roundg k
    case measure=>omega
    case rel=>exact⟨1,I,rfl,by rw[<- zdd];exact H3.o,H2.o.trans L3.o⟩
   .have z2:=HZ.o.z2
    go_wp2_with(first
     | (go_at_call 37;(with_reducible refine(Mw H1.o H2.o.size HZ.o.i2 HZ.o.b2 HZ.o.l2 HZ.o.ps (zfc HB0.o HZ.o.few)).mono ?_);rintro e w3 ⟨rfl,k1,k2⟩;have H3:=A k1;have L3:=A k2;clear k1 k2))
    go_roundg k
    case measure=>omega
    case rel=>exact⟨2,I,rfl,by rw[<- zdc];exact H3.o,H2.o.trans L3.o⟩
end KW
end
end Go.AEv
