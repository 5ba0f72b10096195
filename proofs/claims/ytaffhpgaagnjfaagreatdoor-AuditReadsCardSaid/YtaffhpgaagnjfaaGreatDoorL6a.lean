/- Trails: L6a. Conditions: each theorem's. -/
import Derived.Test.YtaffhpgaagnjfaaGreatDoorH5x0
set_option linter.all false
open List Nat Go.World Go.Proofs.Tryz
open Go.Proofs
set_option maxHeartbeats 4000000
set_option maxRecDepth 100000
namespace Go.AEv
variable{b g m v:Nat}{es:List Ent}{w w2:Ea}
open Go
open Go.AuditPlain(hi qs zm zT numbers zig)
section
open TR
open Go.AuditPlain(put)
namespace RD
abbrev S:=List Nat×Bool
def stU(m:Nat)(s:S):Nat×S:=if s.2 then(match uintR m s.1 with|some (v,L)=>(v,L,true)|none=>(0,s.1,false)) else(0,s.1,false)
def stB(m:Nat)(s:S):List Nat×S:=if s.2 then(match jF m s.1 with|some (v,L)=>(v,L,true)|none=>([],s.1,false)) else([],s.1,false)
def stI(s:S):Int×S:=if s.2 then(match bc s.1 with|some (v,L)=>(v,L,true)|none=>(0,s.1,false)) else(0,s.1,false)
def stF(s:S):Bool×S:=if s.2 then(match cJ s.1 with|some (v,L)=>(v,L,true)|none=>(false,s.1,false)) else(false,s.1,false)
def itL:Nat->S->List Nat×S
 | 0,s=>([],s)
 | n+1,s=>((stU 63 s).1::(itL n (stU 63 s).2).1,(itL n (stU 63 s).2).2)
def stL(s:S):List Nat×S:=itL (stU 63 s).1 (stU 63 s).2
def AtU(w:Ea)(b g:Nat)(s:S):Prop:=∃er:Int,(er=0↔s.2=true)/\N w b g s.1 er
def UP(w:Ea)(b g:Nat)(s:S)(v:Ei)(e:Ew)(w2:Ea):Prop:=e = .returned v/\AtU w2 b g s/\jy b w w2
section
variable{w:Ea}{b g:Nat}{s s':S}
def AtU.yes(h:AtU w b g s)(hs:s.2=true):N w b g s.1 0:=by
 obtain⟨a,h1,h2⟩:=h;obtain rfl:=h1.2 hs;exact h2
def AtU.no(h:AtU w b g s)(hs:s.2=false):∃a:Int,a≠0/\N w b g s.1 a:=by
 obtain⟨a,h1,h2⟩:=h;exact⟨a,(λe=>by rw[h1.1 e]at hs;cases hs),h2⟩
def up_ok{L:Eb}{v:Ei}{e:Ew}(h:OkP w b g L v e w2):UP w b g (L,true) v e w2:=⟨h.1,⟨0,⟨λ_=>rfl,λ_=>rfl⟩,h.2.1⟩,h.2.2⟩
def up_bad{L:Eb}{v:Ei}{e:Ew}(h:Qj w b g L v e w2):UP w b g (L,false) v e w2:=by
 obtain⟨c,h1,h2,h3,a⟩:=h;exact⟨h2,⟨c,⟨λe=>Ld e h1,(λe=>by cases e)⟩,h3⟩,a⟩
def Dg(h:AtU w b g s)(hb:m<=9000000000000000000)(a:stU m s=(v,s')):Calls prog 41 #[.pointer (some ⟨b,0,none⟩),.int .i64 (m:Nat)] w (UP w b g s' (.int .i64 (v:Nat))):=by
 obtain⟨L,ok⟩:=s;unfold stU at a
 cases ok with
 | true=>
  have ha:=h.yes rfl;simp only[if_true]at a;split at a
  .rename_i v1 e c;cases a;exact(Km ha hb c).mono λ_ _ k=>up_ok k
  .rename_i c;cases a
   exact(GH ha hb c).mono λ_ _ k=>up_bad k
 | false=>
  cases a;obtain⟨d,hn,ha⟩:=h.no rfl;exact(uk ha hn m).mono λ_ _ k=>up_bad k
def MQ(h:AtU w b g s)(hb:m<=9000000000000000000)(a:stU m s=(v,s')):Calls prog 91 #[.pointer (some ⟨b,0,none⟩),.int .i64 (m:Nat)] w (UP w b g s' (.int .i64 (v:Nat))):=by
 obtain⟨L,ok⟩:=s;unfold stU at a
 cases ok with
 | true=>
  have ha:=h.yes rfl;simp only[if_true]at a;split at a
  .rename_i v1 e c;cases a;exact(aQ ha hb c).mono λ_ _ k=>up_ok k
  .rename_i c;cases a
   exact(sR ha hb c).mono λ_ _ k=>up_bad k
 | false=>
  cases a;obtain⟨d,hn,ha⟩:=h.no rfl;exact(Cw ha hn m).mono λ_ _ k=>up_bad k
def zfg(h:AtU w b g s){v:Eb}(hb:m<=1000000)(a:stB m s=(v,s')):Calls prog 92 #[.pointer (some ⟨b,0,none⟩),.int .i64 (m:Nat)] w (UP w b g s' (.string (str v))):=by
 obtain⟨L,ok⟩:=s;unfold stB at a
 cases ok with
 | true=>
  have ha:=h.yes rfl;simp only[if_true]at a;split at a
  .rename_i v1 e c;cases a;exact(bR ha hb c).mono λ_ _ k=>up_ok k
  .rename_i c;cases a
   exact(vu ha hb c).mono λ_ _ k=>up_bad k
 | false=>
  cases a;obtain⟨d,hn,ha⟩:=h.no rfl;exact(ln ha hn m).mono λ_ _ k=>up_bad k
def zgu(h:AtU w b g s){v:Int}(a:stI s=(v,s')):Calls prog 93 #[.pointer (some ⟨b,0,none⟩),.int .i64 (-9223372036854775808),.int .i64 9223372036854775807] w (UP w b g s' (.int .i64 v)):=by
 obtain⟨L,ok⟩:=s;unfold stI at a
 cases ok with
 | true=>
  have ha:=h.yes rfl;simp only[if_true]at a;split at a
  .rename_i v1 e c;cases a;exact(tK ha c).mono λ_ _ k=>up_ok k
  .rename_i c;cases a
   exact(TL ha c).mono λ_ _ k=>up_bad k
 | false=>
  cases a;obtain⟨d,hn,ha⟩:=h.no rfl;exact(NU ha hn).mono λ_ _ k=>up_bad k
def zee(h:AtU w b g s){v:Bool}(c:stF s=(v,s')):Calls prog 94 #[.pointer (some ⟨b,0,none⟩)] w (UP w b g s' (.bool v)):=by
 obtain⟨L,ok⟩:=s;unfold stF at c
 cases ok with
 | true=>
  have ha:=h.yes rfl;simp only[if_true]at c;split at c
  .rename_i v1 f a;cases c;exact(mF ha a).mono λ_ _ k=>up_ok k
  .rename_i a;cases c
   cases L with
   | nil=>exact(xk ha).mono λ_ _ k=>up_bad k
   | cons y L=>
    have d:1<y:=by
     have a:(if y<=1 then some (y==1,L) else none)=none:=a;by_cases d:y<=1
     .rw[Y d]at a;cases a
     .omega
    exact(Py ha d).mono λ_ _ k=>up_bad k
 | false=>
  cases c;obtain⟨e,hn,ha⟩:=h.no rfl;exact(C4 ha hn).mono λ_ _ k=>up_bad k
end
def X3{s s':S}(h:stU m s=(v,s')):v<=m:=by
 unfold stU at h;split at h
 .split at h
  .rename_i a;cases h;exact uintR_le a
  .cases h;exact zero_le _
 .cases h;exact zero_le _
def oA:∀(n:Nat) (s:S),(itL n s).1.length=n
 | 0,_=>rfl
 | n+1,s=>by
  show((stU 63 s).1::(itL n (stU 63 s).2).1).length=n+1;rw[Am,oA n]
def NO:∀(n:Nat) (s:S),∀x∈(itL n s).1,x<=63
 | 0,_,x,h=>by cases h
 | n+1,s,x,h=>by
  rcases Lf.1 h with rfl|h
  .exact X3 (s:=s) rfl
  .exact NO n _ x h
end RD
end
section
open TR
open Go.AuditPlain(put)
namespace RD
def BQ{s:S}(h:(stU m s).2.1≠[]):s.1≠[]:=by
 intro e;apply h;obtain⟨L,ok⟩:=s;have e:L=[]:=e;subst e;unfold stU;cases ok<;>rfl
def N.zdw{L:Eb}{e:Int}(h:N w b g L e)(hb:w2.heap[b]?=w.heap[b]?)(j:L≠[]->w2.heap[g]?=w.heap[g]?):N w2 b g L e:=by
 obtain⟨p,c,h1,h2,h3,f⟩:=h.left;refine⟨⟨p,c,by rw[cell?_of_block (a:=⟨b,0,none⟩) hb];exact h1,h2,⟨h3.1,λhn=>?_⟩,f⟩,h.sep,by rw[cell?_of_block (a:=⟨b,1,none⟩) hb];exact h.err,by rw[frozen?_of_block (a:=⟨b,0,none⟩) hb];exact h.fz0,by rw[frozen?_of_block (a:=⟨b,1,none⟩) hb];exact h.fz1,h.few⟩;obtain⟨b',o,rfl,hc⟩:=h3.2 hn;refine⟨b',o,rfl,λi x hi=>?_⟩;have d:b'=g:=f _ rfl;subst d;rw[cell?_of_block (a:=⟨b',o+i,none⟩) (j hn)];exact hc i x hi
def AtU.other{s:S}(h:AtU w b g s)(hb:w2.heap[b]?=w.heap[b]?)(a:s.1≠[]->w2.heap[g]?=w.heap[g]?):AtU w2 b g s:=by
 obtain⟨c,h1,h2⟩:=h;exact⟨c,h1,N.zdw h2 hb a⟩
def AtU.grown{s:S}(h:AtU w b g s)(k:Grown w w2):AtU w2 b g s:=by
 obtain⟨a,h1,h2⟩:=h;exact⟨a,h1,h2.grown k⟩
def AtU.blt{s:S}(h:AtU w b g s):b<w.heap.size:=by
 obtain⟨a,h1,h2⟩:=h;exact block_lt_of_cell? w _ h2.err
def AtU.glt{s:S}(h:AtU w b g s)(hn:s.1≠[]):g<w.heap.size:=by
 obtain⟨a,h1,h2⟩:=h;exact h2.glt hn
def GJ{s s':S}(h:AtU w b g s)(a:stU 63 s=(v,s')):Calls prog 41 #[.pointer (some ⟨b,0,none⟩),.int .i64 63] w (UP w b g s' (.int .i64 (v:Nat))):=Dg (m:=63) h C a
def MR{s s':S}(h:AtU w b g s)(a:stU 63 s=(v,s')):Calls prog 91 #[.pointer (some ⟨b,0,none⟩),.int .i64 63] w (UP w b g s' (.int .i64 (v:Nat))):=MQ (m:=63) h C a
def zit(w0:Ea)(b g:Nat)(s s':S)(l:Eb)(k:Nat)(out i:Ei)(w:Ea):Prop:=∃(j:Nat) (q:Ed) (c:Nat) (sj:S),j+k=l.length/\i = .int .i64 j/\out = .slice q j c/\ki w0.heap.size w out (l.take j)/\AtU w b g sj/\jy b w0 w/\itL k sj=(l.drop j,s')/\(sj.1≠[]->s.1≠[])
def zeP(w0:Ea)(b g:Nat)(s':S)(l:Eb)(e:Ew)(w:Ea):Prop:=∃v,e = .returned v/\ki w0.heap.size w v l/\AtU w b g s'/\jy b w0 w
def zdU{sj s':S}{l:Eb}{j:Nat}(h:itL 0 sj=(l.drop j,s')):sj=s':=by
 have h:([],sj)=(l.drop j,s'):=h;exact(Prod.mk.inj h).2
def SI{s s':S}{l:Eb}(h:AtU w b g s)(hr:stL s=(l,s')):Calls prog 95 #[.pointer (some ⟨b,0,none⟩)] w (zeP w b g s' l):=by
 obtain⟨n,s1,hn⟩:∃n s1,stU 63 s=(n,s1):=⟨_,_,rfl⟩
 have hit:itL n s1=(l,s'):=by unfold stL at hr;rw[hn]at hr;exact hr
 have hl:l.length=n:=by have:=oA n s1;rw[hit]at this;exact this
 have hn63:=X3 hn;have hsub:s1.1≠[]->s.1≠[]:=λe=>BQ (m:=63) (by rw[hn];exact e);have H:=A h;have HN:=A hn;have HIT:=A hit;have HL:=A hl;have H63:=A hn63;have HSUB:=A hsub;have HLT:=A (λe:s.1≠[]=>h.glt e);clear h hr hn hit hl hn63 hsub;go_enter func95,ntmps95;go_wp2_with(go_at_call 41;(with_reducible refine(GJ H.o HN.o).mono ?_);rintro e w1 ⟨rfl,h1,h2⟩;have H1:=A h1;have H2:=A h2;clear h1 h2)
 .have hbB:RowKit.Hid (b<w.heap.size):=A H.o.blt;go_loopg [3,6] n (λk out i wr=>zit w b g s s' l k out i wr)
  case atStart=>exact⟨0,none,0,s1,by rw[HL.o];omega,rfl,rfl,⟨λ_=>rfl,λh=>Ld rfl h⟩,H1.o,H2.o,HIT.o,HSUB.o⟩
  case round=>
   obtain⟨j,q,c,sj,hj,rfl,rfl,hI,hA,hO,hT,hS⟩:=hrel;rw[HL.o]at hj;have HI:=A hI;have HA:=A hA;have HO:=A hO;have HT:=A hT;have HS:=A hS;clear hI hA hO hT hS
   cases gk with
   | zero=>
    have hjm:¬((j:Int)<(n:Int)):=by omega
    have hjl:RowKit.Hid (j=l.length):=A (by rw[HL.o];omega);go_wp2;go_ret
    exact⟨.slice q j c,rfl,mw HI.o hjl.o,by rw[<- zdU HT.o];exact HA.o,HO.o⟩
   | succ k=>
    have hjm:(j:Int)<(n:Int):=by omega
    obtain⟨x,s2,hx⟩:∃x s2,stU 63 sj=(x,s2):=⟨_,_,rfl⟩
    have hT2:l.drop j=x::(itL k s2).1/\s'=(itL k s2).2:=by
     have h:=HT.o;have e:itL (k+1) sj=((stU 63 sj).1::(itL k (stU 63 sj).2).1,(itL k (stU 63 sj).2).2):=rfl;rw[e,hx]at h;exact⟨(Prod.mk.inj h).1.symm,(Prod.mk.inj h).2.symm⟩
    have hlx:l[j]?=some x:=by
     have:=congrArg (λm=>m[0]?) hT2.1;simpa[getElem?_drop] using this
    have hT3:itL k s2=(l.drop (j+1),s'):=by
     have hd:l.drop (j+1)=(itL k s2).1:=by
      have:=congrArg (λm=>m.drop 1) hT2.1;simpa[drop_drop] using this
     rw[hd,hT2.2]
    have HR:=A hx;have HX:=A hlx;have HT3:=A hT3;have HS2:=A (show s2.1≠[]->s.1≠[] from λe=>HS.o (BQ (m:=63) (by rw[HR.o];exact e)));clear hx hlx hT2 hT3;have few:RowKit.Hid ((l.take j).length<=1000):=A (by rw[Ar];have:=HL.o;have:=H63.o;omega);have hjt:(l.take j).length=j:=by rw[Ar];have:=HL.o;omega
    have HJ:=A hjt;clear hjt;have hw64:RowKit.wrap64 ((j:Int)+1)=(j:Int)+1:=by unfold RowKit.wrap64;have:=H63.o;omega
    go_wp2_with(first
     | (go_at_call 91;(with_reducible refine(MR HA.o HR.o).mono ?_);rintro e w2 ⟨rfl,h1,h2⟩;have A1:=A h1;have A2:=A h2;clear h1 h2)
     | (at_builtin;refine rn _ _ _ w2.heap.size rfl rfl (fM (YU HI.o hbB.o A2.o) (zc _ _)) few.o (Lj (Lj HO.o.size A2.o.size) (zc _ _).size) rfl (uE w2 _) HJ.o ?_;intro q' c' w3 k1 k2 k3 k4 k5 k6;have K1:=A k1;have K:=A (And.intro k2 (And.intro k3 (And.intro k4 (And.intro k5 k6))));clear k1 k2 k3 k4 k5 k6))
    go_roundg k
    case measure=>omega
    case rel=>exact⟨j+1,some q',c',s2,by rw[HL.o];omega,(by rw[hw64];rfl),rfl,mv K1.o HX.o,(A1.o.grown (zc _ _)).other (K.o.1 b hbB.o) (λe=>K.o.1 g (HLT.o (HS2.o e))),lZ (HO.o.trans (A2.o.trans (jy.zH (zc _ _)))) K.o,HT3.o,HS2.o⟩
end RD
end
section
open TR
namespace RD
def DR(w:Ea){ops:Ep}{rest:Er}{o:Oper}{a:Act}{Q:Eo}(s x:Ev){L:Eb}{c off:Nat}{T:Ed}
  (hg:o.guard=none) (hop:o.op=Op.call { callee:=Callee.builtin Builtin.append,args:=#[s,x],argTypes:=#[51,51] }) (hs:a.eval s = .slice T 0 0) (hne:L≠[]) (hlen:L.length<=100000)
  (hx:a.eval x = .slice (some ⟨b,off,none⟩) L.length c) (hb:∀i y,L[i]?=some y->w.cell? ⟨b,off+i,none⟩=some (.int .u8 (y:Nat)))
  (hK:∀P H w',jU w.heap.size w' (.slice (some ⟨P,0,none⟩) L.length H) L->Grown w w'->wpList prog ops Q rest (a.put o.dst (.slice (some ⟨P,0,none⟩) L.length H)) w') :
  wpList prog ops Q (o::rest) a w:=by
 obtain⟨i,hi⟩:∃i,Tryz.prog.info? 5=some i:=LM.1 U;have f:(Tryz.prog.info? 5).map (·.size)=some 1:=U;have k2:(Tryz.prog.info? 5).map (λi=>Nat.ble i.bytes 1000)=some true:=U;have k3:((Tryz.prog.info? 5).bind (·.zero)).map (λz=>z.cells.size)=some 1:=U;rw[hi]at f k2 k3;have f:i.size=1:=Aa f;have k2:i.bytes<=1000:=Nat.ble_eq.mp (Aa k2);obtain⟨z,l,k⟩:=LU.1 k3;have l:i.zero=some z:=l;have v:0<L.length:=AV.2 hne;have n:(0+L.length)*i.bytes<=140737488355328:=Lj (Nat.mul_le_mul (show 0+L.length<=100000 by omega) k2) C;have p:0+L.length<=maxLen:=by unfold maxLen;omega
 refine wpList_append_grows w hg s x 51 hop 5 i z 1 i.bytes under51 hi l f rfl k C T 0 0 [] hs (λ_=>⟨rfl,rfl⟩) rfl (λb _ j u e=>by cases e) _ L.length c (qe L) hx (by unfold qe;simp) (λj u e=>?_) (λu t=>?_) I p n λv' w' ho d=>?_
 .unfold qe at e;rw[Lw]at e;obtain⟨y,hy,rfl⟩:=LU.1 e;rw[Addr.add_lit];exact hb j y hy
 .unfold qe at t;obtain⟨y,_,rfl⟩:=Lv.1 t;rfl
 .obtain⟨_,⟨_,h0⟩|⟨g,cap,cur,rfl,h1,h2,h3,_,h5,r⟩⟩:=ho
  .omega
  .have m:Grown w w':=⟨λc hc=>d.block c hc Oc,d.size,d.tape,d.os,d.output⟩
   have r:List.take ((0+L.length)*1) cur.toList=qe L:=r;have:=hK g cap w' ⟨λh=>Ld h hne,λ_=>⟨(g,0,cap-L.length),?_,⟨cur,(0,0),h2,?_,λi _ h=>I,Nat.dvd_zero _,λj e=>?_⟩,h1⟩⟩ m
   .rw[show 0+L.length=L.length by omega];exact this
   .rw[show L.length+(cap-L.length)=cap by omega]
   .rw[jP,bV];show 0+L.length+(cap-L.length)*1<=cur.size;omega
   .rw[jP]at e;rw[<- r,getElem?_take,Y I,LV,Lz]
def R1(w:Ea)(L:Eb)(e:Ew)(w2:Ea):Prop:=∃b c,e = .returned (.slice (some ⟨b,0,none⟩) L.length c)/\Grown w w2/\jU w.heap.size w2 (.slice (some ⟨b,0,none⟩) L.length c) L
def cR{B n:Nat}{v:Ei}{L:Eb}(h:jU B w v L)(hb:n<=B):jU n w v L:=
 ⟨h.1,λhn=>by obtain⟨x,e,hx,a⟩:=h.2 hn;exact⟨x,e,hx,Lj hb a⟩⟩
def P4{o c:Nat}{L:Eb}(hL:In w (some ⟨b,o,none⟩) L)(hne:L≠[])(hlen:L.length<=100000):Calls prog 18 #[.slice (some ⟨b,o,none⟩) L.length c] w (R1 w L):=by
 have HL:=A hL;have HN:=A hne;have HE:=A hlen;clear hL hne hlen;have hnil:=nil_eq;go_enter func18,ntmps18;go_wp2_with(at_builtin;refine DR _ _ _ rfl rfl rfl HN.o HE.o rfl (cL HL.o HN.o _) ?_;intro b2 c' w' h1 h2;have H1:=A h1;have H2:=A h2;clear h1 h2)
 go_ret
 exact⟨b2,c',rfl,(zc w _).trans' H2.o,cR H1.o (zc w _).size⟩
end RD
end
section
open TR
namespace RD
def zeY(w:Ea)(e:Ew)(w2:Ea):Prop:=e = .returned (.tuple #[.pointer none,.int .i64 2])/\Grown w w2
def rB{B:Em}{a:Addr}(h:qm B w (.pointer (some a)) es):∃b o p c,a=⟨b,o,none⟩/\w.cell? ⟨b,o,none⟩=some (.slice p es.length c):=by
 obtain⟨⟨x,hd,r,h1,h2,h3,d,_⟩,_⟩:=h;cases h1;have hc:=TR.cell_of_row h2 (j:=0) rfl;rw[Nat.add_zero]at hc;by_cases hn:es=[]
 .rw[d.1 hn]at hc;subst hn;exact⟨_,_,none,0,rfl,hc⟩
 .obtain⟨y,e,_⟩:=d.2 hn;rw[e]at hc;exact⟨_,_,_,_,rfl,hc⟩
def uM{B:Em}{a:Addr}(h:qm B w (.pointer (some a)) es)(few:es.length<=8):Calls prog 12 #[.pointer (some a),pZ] w (zeY w):=by
 obtain⟨b,o,p,c,rfl,hc⟩:=rB h;have n1:((0:Int)==(es.length:Int)+1)=false:=by simp;omega
 have n2:RowKit.wrap64 ((es.length:Int)+1)=(es.length:Int)+1:=by unfold RowKit.wrap64;omega
 have n2':IntKind.i64.wrap ((es.length:Int)+1)=(es.length:Int)+1:=IntWalk.i64_in _ I;have n6:((0:Int) != (es.length:Int)+1)=true:=by simp;omega
 have n3:decide (4000<=(es.length:Int))=false:=LC I;have n4:¬(4000<=(es.length:Int)):=by omega
 have n5:¬((0:Int)=(es.length:Int)+1):=by omega
 have zgM:=A few;have hc2:=zz hc (zc w (.cells #[.int .i64 0,.int .i64 0,.string ⟨#[]⟩,.int .i64 0,.string ⟨#[]⟩,.string ⟨#[]⟩,.int .i64 0,.bool false,.int .i64 0,.slice none 0 0,.slice none 0 0,.string ⟨#[]⟩,.string ⟨#[]⟩,.bool false] 42));clear h few hc;go_enter func12,ntmps12;go_wp2
 all_goals(try go_region)
 all_goals(try go_wp2)
 all_goals go_ret2
 all_goals exact⟨rfl,(zc w _).trans' (zM _)⟩
end RD
end
section
open TR
open Go.AuditPlain(put)
namespace RD
noncomputable def nr(R:zy):zy:={ R with up:=nrm R.up,down:=nrm R.down }
def MW(R:zy):(nr R).qC=R.qC:=by
 unfold zy.qC;show AuditPlain.Rec.mk _ _ _ _ _ _ _ _ _ (zI (nrm R.up)) (zI (nrm R.down)) _ _ _=_;rw[Wj,Wj];rfl
def aR(o:En):qj (nrm o)=qj o:=by unfold qj;rw[Wj]
def zdH(R:zy):(nr R).els=R.els:=by
 unfold zy.els;show zI (nrm R.up)++zI (nrm R.down)=_;rw[Wj,Wj]
def Te(R:zy):(nr R).zero=R.zero:=by
 unfold zy.zero;show(R.user=0/\qj (nrm R.up)=0/\qj (nrm R.down)=0/\R.does.size=0/\R.at_.size=0/\R.deep=false)=_;rw[aR,aR]
def ifc{a:Type}{b c:Prop}{_:Decidable b}{_:Decidable c}{x y u v:a}(h:b↔c)(h1:x=u)(h2:y=v):(if b then x else y)=if c then u else v:=by
 by_cases hb:b
 .rw[Y hb,Y (h.1 hb),h1]
 .rw[O hb,O λe=>hb (h.2 e),h2]
def Tf(R:zy):(nr R).ZM=R.ZM:=by
 unfold zy.ZM;refine ifc ?_ rfl (ifc ?_ rfl (ifc ?_ rfl rfl))
 .rw[Te];exact Iff.rfl
 .rw[show qj (nr R).up=qj R.up from aR _,show qj (nr R).down=qj R.down from aR _]
 .rw[zdH];exact Iff.rfl
def zdG(R:zy):(nr R).err=R.err:=by
 unfold zy.err;rw[Tf];rfl
def me{o:En}(h:Qc o):Qc (nrm o):=by
 intro s hs;unfold nrm at hs;split at hs
 .cases hs
 .exact h s hs
def zgc{R:zy}(h:R.Ok):(nr R).Ok:=⟨h.number,h.version,h.tenant,h.session,h.action,h.path,h.day,h.user,me h.up,me h.down,h.does,h.at_⟩
def MX(a:List zy)(R:zy):ji (a.map nr) (nr R)=ji a R:=by
 have hx:(∃x∈a.map nr,bars x (nr R))=(∃x∈a,bars x R):=by
  refine propext ⟨λ⟨x,hx,hb⟩=>?_,λ⟨x,hx,hb⟩=>⟨nr x,Lv.2 ⟨x,hx,rfl⟩,hb⟩⟩;obtain⟨y,c,rfl⟩:=Lv.1 hx;exact⟨y,c,hb⟩
 unfold ji;rw[zdG,Ls];exact ifc Iff.rfl rfl (ifc Iff.rfl rfl (ifc (Iff.of_eq hx) rfl rfl))
def wA(a:List zy):ja (a.map nr)=ja a:=by
 have c:(λ(h:Ek) (R:zy)=>ft h (nr R))=ft:=by
  funext h R
  unfold ft Mh;rw[MW]
 unfold ja;rw[List.foldl_map,c]
def UY{v:Ei}{o:En}(h:AtS w v o)(a:Ty w b)(k:jy b w w2):AtS w2 v o:=by
 cases o with
 | none=>exact h
 | some s=>
  obtain⟨x,arr,fz,h⟩:=h;obtain⟨f,d,a⟩:=a;refine⟨x,arr,fz,h.is,?_,h.cap,h.size,h.cell,h.thaw⟩;rw[k.old x.1 (LO.1 h.row).1 λe=>?_]
  .exact h.row
  .have c:=h.row;rw[e,a]at c;simp only[Ag,Obj.cells.injEq]at c;exact Ld c.2.1 C
def Va{x:Ej}{t:Eg}{a:Ec}(k:jy b w w2)(h:zx prog w x t a)(hn:x.1≠b):zx prog w2 x t a:=
 @zx.heap unk0 _ _ _ _ _ _ h (k.old _ (zx.lt h) hn)
def VO{B:Em}{t:Ei}(h:qm B w t es)(hb:¬B b)(c:Ty w b)(k:jy b w w2):qm B w2 t es:=by
 obtain⟨⟨x,hd,r,e,n,m,a,j,i,f⟩,l⟩:=h;refine⟨⟨x,hd,r,e,Va k n λe=>hb (e ▸ j),Va k m λe=>hb (e ▸ i),⟨a.1,λhn=>?_⟩,j,i,f⟩,λq hq=>⟨UY (l q hq).1 c k,UY (l q hq).2 c k⟩⟩;obtain⟨y,d,p⟩:=a.2 hn;exact⟨y,d,Va k p λu=>hb (u ▸ f _ _ _ d)⟩
structure Rr(w0 wN w:Ea)(b g:Nat)(t:Ei)(es:List Ent)(L:Eb)(er:Int):Prop where
 at_:N w b g L er
 ty:Ty w b
 tr:qm (own wN) w t es
 gr:Grown w0 w
 bN:b<wN.heap.size
 gN:g<wN.heap.size
 nw:wN.heap.size<=w.heap.size
 b0:w0.heap.size<=b
 n0:w0.heap.size<=wN.heap.size
section
variable{w0 wN w w2:Ea}{b g:Nat}{t:Ei}{es:List Ent}{L L':Eb}{er er':Int}
def Rr.only(h:Rr w0 wN w b g t es L er)(k:jy b w w2)(ha:N w2 b g L' er'):Rr w0 wN w2 b g t es L' er':=
 ⟨ha,h.ty.only k,VO h.tr (λe=>by have:=h.bN;have e:wN.heap.size<=b:=e;omega) h.ty k,⟨λc hc=>by rw[k.old c (LK hc h.gr.size) (by have:=h.b0;omega),h.gr.old c hc],Lj h.gr.size k.size,k.tape.trans h.gr.tape,k.os.trans h.gr.os,k.output.trans h.gr.output⟩,h.bN,h.gN,Lj h.nw k.size,h.b0,h.n0⟩
def Rr.grown(h:Rr w0 wN w b g t es L er)(k:Grown w w2):Rr w0 wN w2 b g t es L er:=
 ⟨h.at_.grown k,h.ty.only (jy.zH k),Yg k h.tr,h.gr.trans' k,h.bN,h.gN,Lj h.nw k.size,h.b0,h.n0⟩
def Rr.app{t2:Ei}{a:List Ent}(h:Rr w0 wN w b g t es L er)(k:qh w w2)(k3:Xa (own wN) w w2)(d:qm (own wN) w2 t2 a):Rr w0 wN w2 b g t2 a L er:=by
 have old:∀c,c<wN.heap.size->w2.heap[c]?=w.heap[c]?:=λc hc=>k3.2 c (LK hc h.nw) (λe=>by have e:wN.heap.size<=c:=e;omega);refine⟨h.at_.other (old b h.bN) (old g h.gN),?_,d,⟨λc hc=>by rw[old c (LK hc h.n0),h.gr.old c hc],Lj h.gr.size k.size,k.tape.trans h.gr.tape,k.os.trans h.gr.os,k.output.trans h.gr.output⟩,h.bN,h.gN,Lj h.nw k.size,h.b0,h.n0⟩;obtain⟨i,f,h2⟩:=h.ty;exact⟨i,f,by rw[old b h.bN];exact h2⟩
def zeX(w0 wN:Ea)(b g:Nat)(t:Ei)(es:List Ent)(M L:Eb)(e:Ew)(w2:Ea):Prop:=∃p c,e = .returned (.slice p M.length c)/\In w2 p M/\Rr w0 wN w2 b g t es L 0
def zbx(h:Rr w0 wN w b g t es L 0){N:Nat}{M:Eb}(hb:N<=1000000)(d:jF N L=some (M,L')):Calls prog 43 #[.pointer (some ⟨b,0,none⟩),.int .i64 (N:Nat)] w (zeX w0 wN b g t es M L'):=by
 refine(Kr h.at_ hb d).mono λe w2 k=>?_;obtain⟨p,c,a,_,k2,_,_,k3,k4⟩:=k;exact⟨p,c,a,k2,h.only k4 k3⟩
def R6(w0 wN:Ea)(b g:Nat)(t:Ei)(es:List Ent)(L:Eb)(e:Ew)(w2:Ea):Prop:=∃er:Int,er≠0/\e = .returned (.slice none 0 0)/\Rr w0 wN w2 b g t es L er
def P9(h:Rr w0 wN w b g t es L 0){N:Nat}(hb:N<=1000000)(c:jF N L=none):Calls prog 43 #[.pointer (some ⟨b,0,none⟩),.int .i64 (N:Nat)] w (R6 w0 wN b g t es L):=by
 refine(bz h.at_ hb c).mono λe w2 k=>?_;obtain⟨er,a,k2,k3,k4⟩:=k;exact⟨er,a,k2,h.only k4 k3⟩
def zkU(w0 wN:Ea)(b g:Nat)(t:Ei)(es:List Ent)(L:Eb)(R:zy)(e:Ew)(w2:Ea):Prop:=∃p1 n1 c1 p2 n2 c2,e = .returned (.tuple #[Zy R p1 p2 n1 n2 c1 c2,.bool true])/\Rr w0 wN w2 b g t es L 0/\AtS w2 (.slice p1 n1 c1) (nrm R.up)/\AtS w2 (.slice p2 n2 c2) (nrm R.down)
def zcp(h:Rr w0 wN w b g t es L 0){p:Ed}{c n:Nat}{R:zy}(hi:In w p R.qC.bytes)(hn:R.qC.bytes.length=n)(d:EN.Good R)(hd:R.day<=30000):Calls prog 42 #[.slice p n c] w (zkU w0 wN b g t es L R):=by
 refine(PV hi hn d hd).mono λe w2 k=>?_;obtain⟨p1,n1,c1,p2,n2,c2,a,k2,k3,k4⟩:=k;exact⟨p1,n1,c1,p2,n2,c2,a,h.grown k2,k3,k4⟩
def zkV(w0 wN:Ea)(b g:Nat)(t:Ei)(es:List Ent)(L:Eb)(er:Int)(e:Ew)(w2:Ea):Prop:=e = .returned (.tuple #[pZ,.bool false])/\Rr w0 wN w2 b g t es L er
def zep(h:Rr w0 wN w b g t es L er):Calls prog 42 #[.slice none 0 0] w (zkV w0 wN b g t es L er):=by
 refine(PU w).mono λe w2 k=>?_;exact⟨k.1,h.grown k.2⟩
def zkX(w0 wN:Ea)(b g:Nat)(es:List Ent)(L:Eb)(er:Int)(R:zy)(e:Ew)(w2:Ea):Prop:=∃a z1 z2,e = .returned (.tuple #[.pointer (some a),.int .i64 0])/\Rr w0 wN w2 b g (.pointer (some a)) (es++[(nr R,z1,z2)]) L er
def zcw(i:kG w0)(h:Rr w0 wN w b g t es L er)(few:es.length<=8){R:zy}{d:List zy}(hs:es.map (·.1)=d.map nr)(ok:R.Ok)(he:ji d R=0){p1 p2:Ed}{n1 n2 c1 c2:Nat}(h1:AtS w (.slice p1 n1 c1) (nrm R.up))(h2:AtS w (.slice p2 n2 c2) (nrm R.down)) :
  Calls prog 12 #[t,Zy R p1 p2 n1 n2 c1 c2] w (zkX w0 wN b g es L er R):=by
 refine Calls.mono (AP.cS (R:=nr R) (v1:=.slice p1 n1 c1) (v2:=.slice p2 n2 c2) ⟨zgc ok,few,h.tr,h1,h2,i.Jl (qh.zH h.gr),λc hc=>Lj h.nw hc⟩) λe w2 hp=>?_;obtain⟨k,k3,j,t2,rfl,g1,f⟩:=hp;have he:ji (es.map (·.1)) (nr R)=0:=by rw[hs,MX];exact he
 obtain⟨u1,u2,a⟩:=f he;obtain⟨⟨x,hd,r,rfl,_⟩,_⟩:=id a;exact⟨_,u1,u2,by rw[he];rfl,h.app k k3 a⟩
def zeE{a:Addr}(h:Rr w0 wN w b g (.pointer (some a)) es L er)(few:es.length<=8):Calls prog 12 #[.pointer (some a),pZ] w λe w2=>e = .returned (.tuple #[.pointer none,.int .i64 2])/\Rr w0 wN w2 b g (.pointer (some a)) es L er:=by
 refine(uM h.tr few).mono λe w2 k=>?_;exact⟨k.1,h.grown k.2⟩
end
end RD
end
end Go.AEv
