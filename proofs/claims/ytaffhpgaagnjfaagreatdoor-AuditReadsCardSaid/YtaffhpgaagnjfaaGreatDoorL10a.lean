/- Trails: L10a. Conditions: each theorem's. -/
import Derived.Test.YtaffhpgaagnjfaaGreatDoorH9x0
set_option linter.all false
open Go.Proofs.Tryz
open Go.Proofs
namespace Go.AEv
open Go
open Go.AuditPlain(zm)
open KT(zB)
open RD(recAt S AtU UP jy Ty zbU Qj OkP stB stU pS vc qO jF)
open NV(QG)
open KW(JZ)
section
open TR
open Go.AuditPlain(put)
open RD(In N)
namespace GT
def Mo(w:Ea)(b g:Nat)(M:Eb)(s:S)(e:Ew)(w2:Ea):Prop:=∃p n c,e = .returned (.slice p n c)/\M.length=n/\In w2 p M/\AtU w2 b g s/\jy b w w2
def zbw{w:Ea}{b g:Nat}{s s':S}{M:Eb}(h:AtU w b g s){m:Nat}(hb:m<=1000000)(a:stB m s=(M,s')):Calls prog 43 #[.pointer (some ⟨b,0,none⟩),.int .i64 (m:Nat)] w (Mo w b g M s'):=by
 obtain⟨L,ok⟩:=s;unfold stB at a
 cases ok with
 | true=>
  have ha:=h.yes rfl;simp only[if_true]at a;split at a
  .rename_i v1 j d;cases a;refine(RD.Kr ha hb d).mono λe w2 k=>?_;obtain⟨p,c,f,_,k2,_,_,k3,k4⟩:=k;exact⟨p,_,c,f,rfl,k2,⟨0,⟨λ_=>rfl,λ_=>rfl⟩,k3⟩,k4⟩
  .rename_i d;cases a;refine(RD.bz ha hb d).mono λe w2 k=>?_;obtain⟨h1,h2,h3⟩:=RD.up_bad k
   exact⟨none,0,0,h1,rfl,RD.Yu _ _,h2,h3⟩
 | false=>
  cases a;obtain⟨i,hn,ha⟩:=h.no rfl;refine(RD.uA ha hn m).mono λe w2 k=>?_;obtain⟨h1,h2,h3⟩:=RD.up_bad k;exact⟨none,0,0,h1,rfl,RD.Yu _ _,h2,h3⟩
def Ro(w:Ea)(b g:Nat)(s:S)(e:Ew)(w2:Ea):Prop:=∃v s',e = .returned v/\AtU w2 b g s'/\jy b w w2/\(s'.2=false\/s.2=true/\32<=s.1.length/\s'=(s.1.drop 32,true)/\∃b4 o4 c4,v = .slice (some ⟨b4,o4,none⟩) 32 c4/\In w2 (some ⟨b4,o4,none⟩) (s.1.take 32)/\w.heap.size<=b4)
def zfH{w:Ea}{b g:Nat}{s:S}(h:AtU w b g s):Calls prog 44 #[.pointer (some ⟨b,0,none⟩),.int .i64 32] w (Ro w b g s):=by
 obtain⟨L,ok⟩:=s
 cases ok with
 | true=>
  have ha:=h.yes rfl;by_cases hl:L.length<32
  .refine(RD.lM (m:=32) ha hl).mono λe w2 k=>?_;obtain⟨h1,h2,h3⟩:=RD.up_bad k;exact⟨_,_,h1,h2,h3,.inl rfl⟩
  .refine(RD.nP (n:=32) ha (show 32<=L.length by omega)).mono λe w2 k=>?_;obtain⟨p,c,f,j,k2,k5,_,k3,k4⟩:=k
   have a:L.take 32≠[]:=λe=>by
    have:(L.take 32).length=0:=by rw[e];rfl
    rw[Ar]at this;omega
   obtain⟨i,d,rfl,_⟩:=k2.2 a
   exact⟨_,_,f,⟨0,⟨λ_=>rfl,λ_=>rfl⟩,k3⟩,k4,.inr ⟨rfl,by show 32<=L.length;omega,rfl,i,d,c,rfl,k2,k5 _ rfl⟩⟩
 | false=>
  obtain⟨l,hn,ha⟩:=h.no rfl;refine(RD.zdp (m:=32) ha hn).mono λe w2 k=>?_;obtain⟨h1,h2,h3⟩:=RD.up_bad k;exact⟨_,_,h1,h2,h3,.inl rfl⟩
structure Rg(w0 wN w:Ea)(b g:Nat)(s:S)(t:Ei)(es:List Ent)(D:Nat->Nat->Nat):Prop where
 at_:AtU w b g s
 ty:Ty w b
 tr:qY wN.heap.size w t es D
 gr:Grown w0 w
 bN:b<wN.heap.size
 gN:g<wN.heap.size
 nw:wN.heap.size<=w.heap.size
 b0:w0.heap.size<=b
 n0:w0.heap.size<=wN.heap.size
section
variable{w0 wN w w2:Ea}{b g:Nat}{s s':S}{t:Ei}{es:List Ent}{D:Nat->Nat->Nat}
def tT{lo:Nat}(h:qY lo w t es D)(hb:b<lo)(f:Ty w b)(k:jy b w w2):qY lo w2 t es D:=by
 obtain⟨x,hd,p,c,e,n,m,d,j,i,z⟩:=h.ex;have one:∀ {x:Ej}{u:Eg}{a:Ec},lo<=x.1->zx prog w x u a->zx prog w2 x u a:=λ{x u a} hl v=>RD.Va k v I;refine⟨⟨x,hd,p,c,e,one j n,one i m,⟨d.len,d.ex.imp id λ⟨y,e,r,l⟩=>⟨y,e,one l r,l⟩⟩,j,i,z⟩,λq hq=>⟨RD.UY (h.lists q hq).1 f k,RD.UY (h.lists q hq).2 f k⟩,h.lt⟩
def Rg.only(h:Rg w0 wN w b g s t es D)(k:jy b w w2)(ha:AtU w2 b g s'):Rg w0 wN w2 b g s' t es D:=
 ⟨ha,h.ty.only k,tT h.tr h.bN h.ty k,⟨λc hc=>by rw[k.old c (LK hc h.gr.size) (by have:=h.b0;omega),h.gr.old c hc],Lj h.gr.size k.size,k.tape.trans h.gr.tape,k.os.trans h.gr.os,k.output.trans h.gr.output⟩,h.bN,h.gN,Lj h.nw k.size,h.b0,h.n0⟩
def Rg.grown(h:Rg w0 wN w b g s t es D)(k:Grown w w2):Rg w0 wN w2 b g s t es D:=
 ⟨h.at_.grown k,h.ty.only (jy.zH k),h.tr.grown k,h.gr.trans' k,h.bN,h.gN,Lj h.nw k.size,h.b0,h.n0⟩
def Rg.app{t2:Ei}{e:List Ent}{a:Nat->Nat->Nat}(h:Rg w0 wN w b g s t es D)(k:Grown w w2)(c:qY wN.heap.size w2 t2 e a):Rg w0 wN w2 b g s t2 e a:=
 ⟨h.at_.grown k,h.ty.only (jy.zH k),c,h.gr.trans' k,h.bN,h.gN,Lj h.nw k.size,h.b0,h.n0⟩
def Ff{B:Em}{lo:Nat}(a:∀c,B c->lo<=c){v:Ei}(h:qm B w v []):qY lo w v [] (λ_=>ja []):=by
 obtain⟨⟨x,hd,r,e,j,f,d,p,n,u⟩,l⟩:=h;have m:=d.1 rfl;subst m;refine⟨⟨x,hd,none,0,e,j,?_,⟨rfl,.inl ⟨rfl,rfl⟩⟩,a _ p,a _ n,λ_=>⟨rfl,rfl⟩⟩,l,λk i=>AP.Yw [] i⟩
 have:kR ([]:List Ent).length (λ_=>ja [])=JN (([]:List Ent).map (·.1)):=by
  unfold kR JN;rfl
 rw[this];exact f
def M4(m:kG w0)(ha:AtU w b g s)(h:Ty w b)(f:Grown w0 w)(hb:w0.heap.size<=b)(i:g<w.heap.size):Calls prog 22 #[] w λe w2=>∃a,e = .returned (.pointer (some a))/\Rg w0 w w2 b g s (.pointer (some a)) [] (λ_=>ja []):=by
 refine Calls.mono (TC.Up (B:=own w) (λc hc=>hc) (m.Jl (qh.zH f))) λe w2 k=>?_;obtain⟨g1,t,rfl,d⟩:=k;obtain⟨⟨x,hd,r,rfl,_⟩,_⟩:=id d;obtain⟨l,j,h2⟩:=h;exact⟨_,rfl,ha.grown g1,⟨l,j,by rw[g1.old b (LO.1 h2).1];exact h2⟩,Ff (λc hc=>hc) d,f.trans' g1,(LO.1 h2).1,i,g1.size,hb,f.size⟩
def zbh(h:Rg w0 wN w b g s t es D){v:Nat}(a:stU 4000 s=(v,s')):Calls prog 41 #[.pointer (some ⟨b,0,none⟩),.int .i64 4000] w λe w2=>e = .returned (.int .i64 (v:Nat))/\Rg w0 wN w2 b g s' t es D:=
 (RD.Dg (m:=4000) h.at_ C a).mono λ_ _ k=>⟨k.1,h.only k.2.2 k.2.1⟩
def MoG(w0 wN:Ea)(b g:Nat)(M:Eb)(s:S)(t:Ei)(es:List Ent)(D:Nat->Nat->Nat)(e:Ew)(w2:Ea):Prop:=∃p n c,e = .returned (.slice p n c)/\M.length=n/\In w2 p M/\Rg w0 wN w2 b g s t es D
def uz(h:Rg w0 wN w b g s t es D){m:Nat}{M:Eb}(hb:m<=1000000)(d:stB m s=(M,s')):Calls prog 43 #[.pointer (some ⟨b,0,none⟩),.int .i64 (m:Nat)] w (MoG w0 wN b g M s' t es D):=
 (zbw h.at_ hb d).mono λ_ _ ⟨p,n,c,a,k2,k3,k4,k5⟩=>⟨p,n,c,a,k2,k3,h.only k5 k4⟩
def zix(w0 wN:Ea)(b g:Nat)(s:S)(t:Ei)(es:List Ent)(D:Nat->Nat->Nat)(R:zy)(ok:Bool)(e:Ew)(w2:Ea):Prop:=∃p1 n1 c1 p2 n2 c2,e = .returned (.tuple #[Zy R p1 p2 n1 n2 c1 c2,.bool ok])/\Rg w0 wN w2 b g s t es D/\AtS w2 (.slice p1 n1 c1) R.up/\AtS w2 (.slice p2 n2 c2) R.down
def zeq(h:Rg w0 wN w b g s t es D){p:Ed}{c n:Nat}{M:Eb}{R:zy}{ok:Bool}(hi:In w p M)(hn:M.length=n)(hb:n<=100000)(d:pS n M R ok):Calls prog 42 #[.slice p n c] w (zix w0 wN b g s t es D R ok):=
 (RD.zbe hi hn hb d).mono λ_ _ ⟨p1,n1,c1,p2,n2,c2,a,k2,k3,k4⟩=>⟨p1,n1,c1,p2,n2,c2,a,h.grown k2,k3,k4⟩
def ziA(w0 wN:Ea)(b g:Nat)(s:S)(es:List Ent)(R:zy)(e:Ew)(w2:Ea):Prop:=Grown w0 w2/\((∃er:Int,(er != 0)=true/\e = .returned (.tuple #[.pointer none,.int .i64 er]))\/∃a z1 z2 D2,e = .returned (.tuple #[.pointer (some a),.int .i64 0])/\Rg w0 wN w2 b g s (.pointer (some a)) (es++[(R,z1,z2)]) D2)
def Rj{a:Addr}(l:kG w0)(hm:QG w0)(h:Rg w0 wN w b g s (.pointer (some a)) es D){R:zy}(f:JZ R){p1 p2:Ed}{n1 n2 c1 c2:Nat}(h1:AtS w (.slice p1 n1 c1) R.up)(h2:AtS w (.slice p2 n2 c2) R.down) :
  Calls prog 12 #[.pointer (some a),Zy R p1 p2 n1 n2 c1 c2] w (ziA w0 wN b g s es R):=by
 refine(zbG (KQ.jk l h.gr) (hm.grown h.gr) h.tr h.nw f h1 h2).mono λe w2 k=>?_;obtain⟨c,k2⟩:=k;refine⟨h.gr.trans' c,k2.imp (λ⟨i,q1,q2⟩=>⟨i,bne_iff_ne.2 q1,q2⟩) λ⟨j,d,z2,m,q1,q2⟩=>⟨j,d,z2,m,q1,h.app c q2⟩⟩
end
end GT
end
end Go.AEv
