/- Trails: L4a. Conditions: each theorem's. -/
import Derived.Test.YtaffhpgaagnjfaaGreatDoorH3x0
import Derived.Laws.IdiomCopy
import Derived.Deep.RegionLaw
set_option linter.all false
open List Go.Proofs.Tryz
open Go.Proofs
namespace Go.AEv
variable{b h k x:Nat}{vs:Ec}{w w0 w2:Ea}
open Go
open Go.AuditPlain(hi qs zm zT numbers zig)
open KP(W qv)
open RD(qe)
section
open TR
open Go.AuditPlain(put)
namespace RD
structure Dec(w0 w:Ea)(b g x r:Nat)(L:Eb)(vs:Ec)(Z:List (Value×List Nat))(er:Int):Prop where
 at_:N w b g L er
 row:zx prog w (x,0,0) 42 vs
 res:∃zs,zs.length=14/\zx prog w (r,0,0) 42 zs
 gr:Grown w0 w
 xb:x≠b
 rb:r≠b
 xg:x≠g
 rx:r≠x
 x0:w0.heap.size<=x
 r0:w0.heap.size<=r
 b0:w0.heap.size<=b
 li:∀q∈Z,∃B,b<B/\x<B/\r<B/\ki B w q.1 q.2
def ff{t:Eg}(k:jy b w w2)(h:zx prog w (x,0,0) t vs)(hn:x≠b):zx prog w2 (x,0,0) t vs:=
 @zx.heap unk0 _ _ _ _ _ _ h (k.old _ (zx.lt h) hn)
def Dec.only{g r:Nat}{L L':Eb}{Z:List (Value×List Nat)}{z a:Int}(h:Dec w0 w b g x r L vs Z z)(k:jy b w w2)(ha:N w2 b g L' a):Dec w0 w2 b g x r L' vs Z a:=by
 obtain⟨zs,d,e⟩:=h.res;exact⟨ha,ff k h.row h.xb,⟨zs,d,ff k e h.rb⟩,⟨λc hc=>by rw[k.old c (LK hc h.gr.size) (by have:=h.b0;omega),h.gr.old c hc],Lj h.gr.size k.size,k.tape.trans h.gr.tape,k.os.trans h.gr.os,k.output.trans h.gr.output⟩,h.xb,h.rb,h.xg,h.rx,h.x0,h.r0,h.b0,λq hq=>by obtain⟨B,h1,h2,h3,f⟩:=h.li q hq;exact⟨B,h1,h2,h3,YU f h1 k⟩⟩
def Jn{t:Eg}{v:Ei}(h:zx prog w (b,0,0) t vs)(c:k<vs.length):zx prog (w.setCell ⟨b,k,none⟩ v) (b,0,0) t (vs.set k v):=by
 obtain⟨arr,fz,h1,h2,h3,f,d⟩:=h;have h2:0+vs.length+0*qS prog t<=arr.size:=h2;refine⟨arr.setIfInBounds k v,fz,?_,?_,λi hi=>h3 i (by rw[AM]at hi;exact hi),f,λj a=>?_⟩
 .unfold World.setCell;show(w.heap.modify b _)[b]?=_;rw[AD,Y rfl];show Option.map _ w.heap[b]?=_;rw[show w.heap[b]?=_ from h1];rfl
 .rw[AM,LF];exact h2
 .rw[LF]at a;have:=d j a;rw[Lz]at this;show(arr.setIfInBounds k v)[0+j]?=_;rw[Lz,AN,List.getElem?_set];by_cases e:k=j
  .subst e;rw[Y rfl,Y rfl,Y I,Y c]
  .rw[O e,O e];exact this
def Dec.set{g r:Nat}{L:Eb}{Z:List (Value×List Nat)}{z:Int}(h:Dec w0 w b g x r L vs Z z)(k:Nat)(v:Ei)(f:k<vs.length):Dec w0 (w.setCell ⟨x,k,none⟩ v) b g x r L (vs.set k v) Z z:=by
 have o:=yk x k v w;obtain⟨zs,a,d⟩:=h.res;have hb:=World.block_lt_of_cell? w _ h.at_.err;refine⟨?_,Jn h.row f,⟨zs,a,ff o d h.rx⟩,⟨λc hc=>by rw[o.old c (LK hc h.gr.size) (by have:=h.x0;omega),h.gr.old c hc],Lj h.gr.size o.size,o.tape.trans h.gr.tape,o.os.trans h.gr.os,o.output.trans h.gr.output⟩,h.xb,h.rb,h.xg,h.rx,h.x0,h.r0,h.b0,λq hq=>by obtain⟨B,h1,h2,h3,i⟩:=h.li q hq;exact⟨B,h1,h2,h3,YU i h2 o⟩⟩
 have other:∀c,c≠x->(w.setCell ⟨x,k,none⟩ v).heap[c]?=w.heap[c]?:=λc hc=>by
  unfold World.setCell;rw[AD,O (λe=>hc e.symm)]
 exact h.at_.other (other b h.xb.symm) (other g h.xg.symm)
def zL{g r:Nat}{L:Eb}{Z:List (Value×List Nat)}{z:Int}(h:Dec w0 w b g x r L vs Z z){v:Ei}(hv:vs[k]?=some v):w.cell? ⟨x,k,none⟩=some v/\w.frozen? ⟨x,k,none⟩=false:=by
 have hc:=TR.cell_of_row h.row hv;rw[Lz]at hc;refine⟨hc,?_⟩;obtain⟨arr,fz,h1,h2,h3,_⟩:=h.row;have a:=(LL.1 hv).1;have h2:0+vs.length+0*qS prog 42<=arr.size:=h2;unfold World.frozen?;rw[show w.heap[x]?=_ from h1];have:=h3 k I;show(decide (fz.1<=k)&&decide (k<fz.2))=false;rw[AG,LH,LH];omega
def Hz(w0:Ea)(b g x r:Nat)(L:Eb)(vs:Ec)(Z:List (Value×List Nat))(v:Ei)(e:Ew)(w2:Ea):Prop:=e = .returned v/\Dec w0 w2 b g x r L vs Z 0
section
variable{w0 w:Ea}{b g x r:Nat}{L L':Eb}{vs:Ec}{Z:List (Value×List Nat)}
def zdD(h:Dec w0 w b g x r L vs Z 0){m v:Nat}(hb:m<=9000000000000000000)(a:uintR m L=some (v,L')):Calls prog 91 #[.pointer (some ⟨b,0,none⟩),.int .i64 (m:Nat)] w (Hz w0 b g x r L' vs Z (.int .i64 (v:Nat))):=
 (aQ h.at_ hb a).mono λ_ _ k=>⟨k.1,h.only k.2.2 k.2.1⟩
def zfh(h:Dec w0 w b g x r L vs Z 0){m:Nat}{M:Eb}(hb:m<=1000000)(a:jF m L=some (M,L')):Calls prog 92 #[.pointer (some ⟨b,0,none⟩),.int .i64 (m:Nat)] w (Hz w0 b g x r L' vs Z (.string (str M))):=
 (bR h.at_ hb a).mono λ_ _ k=>⟨k.1,h.only k.2.2 k.2.1⟩
def zgx(h:Dec w0 w b g x r L vs Z 0){v:Int}(a:bc L=some (v,L')):Calls prog 93 #[.pointer (some ⟨b,0,none⟩),.int .i64 (-9223372036854775808),.int .i64 9223372036854775807] w (Hz w0 b g x r L' vs Z (.int .i64 v)):=
 (tK h.at_ a).mono λ_ _ k=>⟨k.1,h.only k.2.2 k.2.1⟩
def mF{L L':Eb}{w:Ea}(h:N w b g L 0){v:Bool}(a:cJ L=some (v,L')):Calls prog 94 #[.pointer (some ⟨b,0,none⟩)] w (OkP w b g L' (.bool v)):=by
 cases L with
 | nil=>cases a
 | cons y L=>
  have a:(if y<=1 then some (y==1,L) else none)=some (v,L'):=a;split at a
  .rename_i c;cases a;have:=Gt h c
   have e:((y:Int)==1)=(y==1):=by
    rw[Bool.eq_iff_iff,Ll,Ll];omega
   rwa[e]at this
  .cases a
def Pv(h:Dec w0 w b g x r L vs Z 0){v:Bool}(a:cJ L=some (v,L')):Calls prog 94 #[.pointer (some ⟨b,0,none⟩)] w (Hz w0 b g x r L' vs Z (.bool v)):=
 (mF h.at_ a).mono λ_ _ k=>⟨k.1,h.only k.2.2 k.2.1⟩
end
end RD
end
section
open TR
namespace KQ
open KP(tabs)
open RD(In)
def HAt(w:Ea)(h:Nat)(used:Nat):Prop:=∃(a b:Ek) (tot:Int),(∀i,a i<W)/\(∀j,b j<256)/\zx prog w (h,0,0) 303 (qv a++(qE b++[.int .i64 (used:Nat),.int .u64 tot]))
def qV(a:Ek):(qv a).length=25:=by unfold qv;simp[KP.r25]
def jg(b:Ek):(qE b).length=136:=by unfold qE;simp
def Ke(a b:Ek)(u t:Ei):(qv a++(qE b++[u,t])).length=163:=by simp[qV,jg]
def TU(a b:Ek)(u t:Ei):(qv a++(qE b++[u,t]))[161]?=some u:=by
 rw[Aj (by rw[qV];decide),qV,Aj (by rw[jg];decide),jg];rfl
def zd0(a b:Ek)(u t:Ei):(qv a++(qE b++[u,t]))[162]?=some t:=by
 rw[Aj (by rw[qV];decide),qV,Aj (by rw[jg];decide),jg];rfl
def JF{t:Eg}{a:Ec}(h:zx prog w (b,0,0) t a)(c:k<a.length):w.frozen? ⟨b,k,none⟩=false:=by
 obtain⟨arr,fz,h1,h2,h3,_⟩:=h;exact @mD unk0 _ _ _ _ _ _ h1 h3 (by have h2:0+a.length+0*qS prog t<=arr.size:=h2;omega)
def HAt.used{w:Ea}{h used:Nat}(H:HAt w h used):w.cell? ⟨h,161,none⟩=some (.int .i64 (used:Nat))/\w.frozen? ⟨h,161,none⟩=false:=by
 obtain⟨a,b,tot,_,_,c⟩:=H;have:=TR.cell_of_row c (TU a b _ _);rw[Lz]at this;exact⟨this,JF c (by rw[Ke];decide)⟩
def HAt.tot{w:Ea}{h used:Nat}(H:HAt w h used):∃tot:Int,w.cell? ⟨h,162,none⟩=some (.int .u64 tot)/\w.frozen? ⟨h,162,none⟩=false:=by
 obtain⟨a,b,tot,_,_,c⟩:=H;have:=TR.cell_of_row c (zd0 a b _ _);rw[Lz]at this;exact⟨tot,this,JF c (by rw[Ke];decide)⟩
def IS(a b:Ek)(u t c:Ei):(qv a++(qE b++[u,t])).set 162 c=qv a++(qE b++[u,c]):=by
 rw[List.set_append_right _ _ (by rw[qV];decide),qV,List.set_append_right _ _ (by rw[jg];decide),jg];rfl
def IP(a b:Ek)(u c t:Ei):(qv a++(qE b++[u,t])).set 161 c=qv a++(qE b++[c,t]):=by
 rw[List.set_append_right _ _ (by rw[qV];decide),qV,List.set_append_right _ _ (by rw[jg];decide),jg];rfl
def HAt.zcZ{used:Nat}(H:HAt w h used)(t:Int):HAt (w.setCell ⟨h,162,none⟩ (.int .u64 t)) h used:=by
 obtain⟨a,b,tot,ha,hb,c⟩:=H;refine⟨a,b,t,ha,hb,?_⟩;have:=RD.Jn (v:=.int .u64 t) (k:=162) c (by rw[Ke];decide);rwa[IS]at this
def HAt.SD{used:Nat}(H:HAt w h used)(u:Nat):HAt (w.setCell ⟨h,161,none⟩ (.int .i64 (u:Nat))) h u:=by
 obtain⟨a,b,tot,ha,hb,c⟩:=H;refine⟨a,b,tot,ha,hb,?_⟩;have:=RD.Jn (v:=.int .i64 (u:Nat)) (k:=161) c (by rw[Ke];decide);rwa[IP]at this
def IT(a b:Ek)(u t:Ei)(c:k<136):(qv a++(qE b++[u,t])).set (25+k) (.int .u8 (x:Nat))=qv a++(qE (λj=>if j=k then x else b j)++[u,t]):=by
 rw[List.set_append_right _ _ (by rw[qV];omega),qV,LA,List.set_append_left _ _ (by rw[jg];exact c)];congr 2;refine AF λi=>?_;rw[List.getElem?_set];unfold qE;rw[Ls,As,Lw,Lw];rcases LD i 136 with h|h
 .rw[Ah h];show _=some (Value.int .u8 ((if i=k then x else b i:Nat):Int));split
  .rename_i e;rw[Y I];try rw[Y e.symm]
  .rename_i e;try rw[O λd=>e d.symm]
   rfl
 .rw[O I,Au (by rw[As];exact h)];rfl
def HAt.SE{used:Nat}(H:HAt w h used)(d:k<136)(hx:x<256):HAt (w.setCell ⟨h,25+k,none⟩ (.int .u8 (x:Nat))) h used:=by
 obtain⟨a,b,tot,ha,hb,c⟩:=H;refine⟨a,λj=>if j=k then x else b j,tot,ha,λj=>?_,?_⟩
 .dsimp only;split
  .exact hx
  .exact hb j
 .have:=RD.Jn (v:=.int .u8 (x:Nat)) (k:=25+k) c (by rw[Ke];omega);rwa[IT _ _ _ _ d]at this
def eh(w:Ea)(a:Addr)(v:Ei):jR (· = a.block) w (w.setCell a v):=
 ⟨λk _ hn=>by unfold World.setCell;simp only;rw[AD,O λe=>hn e.symm],by unfold World.setCell;simp,rfl,rfl,rfl⟩
def jR.trans{p:Em}{a b c:Ea}(h:jR p a b)(k:jR p b c):jR p a c:=
 ⟨λi hi hn=>(k.1 i (LK hi h.2.1) hn).trans (h.1 i hi hn),Lj h.2.1 k.2.1,k.2.2.1.trans h.2.2.1,k.2.2.2.1.trans h.2.2.2.1,k.2.2.2.2.trans h.2.2.2.2⟩
def jR.refl(p:Em)(w:Ea):jR p w w:=⟨λ_ _ _=>rfl,Lh _,rfl,rfl,rfl⟩
def eF{h used:Nat}:∀(L:Eb) (o:Nat) {w:Ea},HAt w h used->(∀y∈L,y<256)->o+L.length<=136->HAt (w.setCells h (25+o) (qe L)) h used/\jR (· = h) w (w.setCells h (25+o) (qe L))
 | [],_,w,H,_,_=>⟨H,jR.refl _ _⟩
 | x::L,o,w,H,hL,hl=>by
  have hl:o+(L.length+1)<=136:=hl;obtain⟨h1,h2⟩:=eF L (o+1) (H.SE (k:=o) (x:=x) I (hL x LG)) (λy a=>hL y (LP _ a)) I;exact⟨h1,(eh w ⟨h,25+o,none⟩ _).trans h2⟩
def HAt.cells{used:Nat}(H:HAt w h used)(d:k<163):(w.cell? ⟨h,k,none⟩).isSome=true/\w.frozen? ⟨h,k,none⟩=false:=by
 obtain⟨a,b,tot,_,_,c⟩:=H;have hl:=Ke a b (.int .i64 (used:Nat)) (.int .u64 tot);have:=TR.cell_of_row c (Ly (l:=qv a++(qE b++[.int .i64 (used:Nat),.int .u64 tot])) (i:=k) (by rw[hl];exact d));rw[Lz]at this;exact⟨by show(w.cell? ⟨h,k,none⟩).isSome=true;rw[show w.cell? ⟨h,k,none⟩=_ from this];rfl,JF c (by rw[hl];exact d)⟩
def HAt.zcY{used m:Nat}(H:HAt w h used){v:Int}(hv:(m:Int)=v):HAt (w.setCell ⟨h,161,none⟩ (.int .i64 v)) h m:=by
 subst hv;exact H.SD m
def HAt.grown{used:Nat}(H:HAt w h used)(g:Grown w w2):HAt w2 h used:=by
 obtain⟨a,b,tot,ha,hb,c⟩:=H;exact⟨a,b,tot,ha,hb,qi g c⟩
def jR.zH{p:Em}(g:Grown w w2):jR p w w2:=⟨λk a _=>g.old k a,g.size,g.tape,g.os,g.output⟩
def ez{n:Nat}{ops:Ep}{o:Oper}{a:Act}{K:Act->World->Prop}{Q:Eo}{E:Prop}(d s:Ev){L:Eb}{used dl dc c:Nat}{p:Ed}
  (hg:o.guard=none) (hop:o.op=Op.call { callee:=Callee.builtin Builtin.copy,args:=#[d,s],argTypes:=#[51,51] }) (H:HAt w h used) (hu:used<136) (hn:min L.length (136-used)=n) (hdl:dl=136-used)
  (hd:a.eval d = .slice (some ⟨h,25+used,none⟩) dl dc) (hs:a.eval s = .slice p L.length c) (hi:In w p L) (hne:L≠[])
  (hK:∀w',HAt w' h used->jR (· = h) w w'->K (a.put o.dst (.int .i64 (n:Nat))) w') :
  if Region.wanted o (yielded ops a.tmps)=true then Oper.wp prog o a w K Q else E:=by
 obtain⟨b,off,rfl,hc⟩:=hi.2 hne;subst hn;subst hdl;have hlen:(L.take (136-used)).length=min L.length (136-used):=by rw[Ar,Nat.min_comm]
 have g:(qe (L.take (136-used))).length=min L.length (136-used):=by unfold qe;rw[Ls,hlen]
 have l:=run_copy_cells (P:=prog) w 51 51 o.type 5 h (25+used) (136-used) dc ⟨b,off,none⟩ L.length c (qe (L.take (136-used))) RD.under51 U g (λj v f=>by
  unfold qe at f;rw[Lw]at f;obtain⟨y,e,rfl⟩:=LU.1 f;rw[getElem?_take]at e;split at e
  .rw[Addr.add_lit];exact hc j y e
  .cases e) (λj f=>(H.cells (k:=25+used+j) I).1) (λj f=>(H.cells (k:=25+used+j) I).2) (λv hv=>by
  unfold qe at hv;obtain⟨y,_,rfl⟩:=Lv.1 hv
  rfl)
 obtain⟨i,k2⟩:=eF (L.take (136-used)) used H (λy e=>hi.1 y (mem_of_mem_take e)) (by rw[hlen];omega);rw[Y (by simp[Region.wanted,hg])];unfold Oper.wp;simp only[execOp,hop,resolve,invoke,builtin,Lg,Ln,Li,map_toArray,Aw,map_nil,hd,hs,l];rw[g];exact hK _ i k2
end KQ
end
end Go.AEv
