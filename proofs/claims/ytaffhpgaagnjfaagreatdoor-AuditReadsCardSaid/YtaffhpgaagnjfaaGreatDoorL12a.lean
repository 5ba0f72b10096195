/- Trails: L12a. Conditions: each theorem's. -/
import Derived.Test.YtaffhpgaagnjfaaGreatDoorH11x0
import Derived.Laws.BitsAllLaws
import Derived.Test.YtaffhpgaagnjfaaGreatDoorTie
set_option linter.all false
open List Nat Go.World Go.Proofs.Tryz
open Go.Proofs
set_option maxHeartbeats 40000000
set_option maxRecDepth 1000000
namespace Go.AEv
variable{e k n x:Nat}{es:List Ent}{u w:Ea}
open Go
open Go.AuditPlain(zm)
open KT(zB)
open RD(YB Zf qO NC fQ Vw nr u16_nat C0 ij)
open NV(QG)
open KW(JZ WideB)
section
open TR
open Go.AuditPlain(put)
open RD(In)
namespace GT
def dV(a:Addr)(w:Ea)(N:Eb):Prop:=Calls prog 14 #[.pointer (some a)] w (Bs w N)
def LR(w:Ea)(v kk n:Nat)(N:Eb)(e:Ew)(w2:Ea):Prop:=Grown w w2 /\
 ((∃a,e = .returned (.tuple #[.pointer (some a),.int .i64 0])/\dV a w2 N)\/(v≠0/\e = .returned (.tuple #[.pointer none,.int .i64 13]))\/(v≠0/\kk+32<n/\e = .returned (.tuple #[.pointer none,.int .i64 6])))
def mV{lo:Nat}{a:Addr}{D:Nat->Nat->Nat}{N:Eb}(h:qY lo w (.pointer (some a)) es D)(hw:∀x∈es,WideB x.1)(few:es.length<=4000)(hN:ia es D=N)(hl:N.length<=1000):dV a w N:=by
 subst hN;refine Ds h hw few ?_;unfold ia at hl;rw[Lm]at hl;omega
def ei{B:Em}{lo:Nat}{v:Ei}(h:qm B w v es)(b:∀c,B c->lo<=c):qY lo w v es (λk=>ja ((es.map (·.1)).take k)):=by
 obtain⟨⟨x,hd,r,e,m,j,f,z,u,t⟩,l⟩:=h
 have a:∃p c,r = .slice p es.length c/\yq 42 14 lo w (.slice p es.length c) es.length (cellsOf es)/\(es.length=0->p=none/\c=0):=by
  by_cases he:es=[]
  .have a:=f.1 he;subst he;exact⟨none,0,a,⟨rfl,.inl ⟨rfl,rfl⟩⟩,λ_=>⟨rfl,rfl⟩⟩
  .obtain⟨y,g,n⟩:=f.2 he;have hn:es.length≠0:=λd=>he (Ax d);exact⟨_,_,g,⟨by rw[yA,Nat.mul_comm],.inr ⟨y,rfl,n,b _ (t _ _ _ g)⟩⟩,λd=>Ld d hn⟩
 obtain⟨p,c,rfl,q1,q2⟩:=a;refine⟨⟨x,hd,p,c,e,m,?_,q1,b _ z,b _ u,q2⟩,l,λk i=>AP.Yw _ i⟩
 have:kR es.length (λk=>ja ((es.map (·.1)).take k))=JN (es.map (·.1)):=by
  unfold kR JN;rw[Ls]
 rw[this];exact j
def rq{R:zy}(h:RH.Acc R):WideB R:=by
 obtain⟨_,c2,c3,c4,c5,a⟩:=h.good.chain
 exact⟨⟨by have:=h.ok.number;omega,by have:=h.ok.number;omega⟩,⟨h.good.ver,by have:=h.ver;omega⟩,
  by have:=h.ok.tenant.JB;omega,by have:=h.ok.session;exact⟨I,I⟩,
  by have:=h.ok.action.JB;omega,by have:=h.ok.path.JB;omega,⟨h.ok.day.1,h.day⟩,⟨h.ok.user.1,I⟩,
  by omega,I,by have:=h.ok.does.JB;omega,by have:=h.ok.at_.JB;omega⟩
def Sj{R:zy}(h:WideB R):WideB (nr R):=
 ⟨h.number,h.version,h.tenant,h.session,h.action,h.path,h.day,h.user,by show qj (RD.nrm R.up)<=63;rw[RD.aR];exact h.up,by show qj (RD.nrm R.down)<=63;rw[RD.aR];exact h.down,h.does,h.at_⟩
def IQ{N:Eb}(a:k<N.length):N.set k (N.getD k 0)=N:=by
 apply AF;intro i;rw[List.getElem?_set];split
 .rename_i e;subst e
  first
   | (rw[Y a,Aq,Ly a];rfl)
   | (rw[Aq,Ly a];rfl)
 .rfl
def rf{v:Nat}(h:v≠0):x ^^^ v≠x:=λe=>by
 have:x ^^^ (x ^^^ v)=x ^^^ x:=by rw[e]
 rw[<- Nat.xor_assoc,Nat.xor_self,zero_xor]at this;exact h this
def NF{N:Eb}{b:List zy}{i c3 j v:Nat}(Q:kG w)(MC:QG w)(hist:iZ b)(acc:∀R∈b,RH.Acc R)(few:b.length<=8)(hN:N=YB b)(hk:j<N.length)(hi:In w (some ⟨n,i,none⟩) (N.set j (N.getD j 0 ^^^ v))) :
  Calls prog 15 #[.slice (some ⟨n,i,none⟩) N.length c3] w (LR w v j N.length (N.set j (N.getD j 0 ^^^ v))):=by
 have hl:=Vw acc few;rw[<- hN]at hl;by_cases hv:v=0
 .subst hv;rw[xor_zero,IQ hk]at hi ⊢;obtain⟨T,d⟩:=fQ hist acc few;rw[<- hN]at T d;rw[T]at hi;refine(RD.FE Q hi d).mono λe w2 k=>?_;obtain⟨a2,bs,rfl,g,z,hs⟩:=k;refine⟨g,.inl ⟨a2,rfl,mV (ei z λc hc=>hc) (λx hx=>?_) ?_ ?_ I⟩⟩
  .have:x.1∈b.map nr:=by rw[<- hs];exact Lv.2 ⟨x,hx,rfl⟩
   obtain⟨R,hR,e⟩:=Lv.1 this;rw[<- e];exact Sj (rq (acc R hR))
  .have:=congrArg List.length hs;rw[Ls,Ls]at this;omega
  .have p:=congrArg List.length hs;rw[Ls,Ls]at p;unfold ia;rw[hs];show(put bs.length++qO (b.map nr))++kF (ja ((b.map nr).take bs.length))=N;rw[AO (by rw[Ls];omega),RD.MV,RD.wA,hN,p,Ae];rfl
 .by_cases P:j+32<N.length
  .refine(zdl Q MC hi (by rw[LF]) (λe=>?_) I).mono λe w2 k=>?_
   .have:=congrArg List.length e;rw[LF]at this;have h0:N.length=0:=this;omega
   .obtain⟨g,(rfl|rfl)|⟨a,es,D,rfl,z,hw,h4,u⟩⟩:=k
    .exact⟨g,.inr (.inr ⟨hv,P,rfl⟩)⟩
    .exact⟨g,.inr (.inl ⟨hv,rfl⟩)⟩
    .exact⟨g,.inl ⟨a,rfl,mV z (λx hx=>(hw x hx).toWideB) h4 u (by rw[LF];omega)⟩⟩
  .have h:N=(put b.length++qO b)++Zf b:=by rw[hN];unfold YB;rw[Ae]
   have r:=RD.fT b;obtain⟨m,hm⟩:∃m,m=(put b.length++qO b).length:=⟨_,rfl⟩
   have hnl:N.length=m+32:=by rw[h,Lm,r,hm]
   have t:N.getD j 0=(Zf b).getD (j-m) 0:=by
    rw[Aq,Aq,h,Aj I,hm]
   have f:N.set j (N.getD j 0 ^^^ v)=put b.length++RD.Left b b.length ((Zf b).set (j-m) (N.getD j 0 ^^^ v)) 0:=by
    rw[NC,take_length,<- Ae];generalize N.getD j 0 ^^^ v=y;rw[h,List.set_append,O I,hm]
   have H:(Zf b).set (j-m) (N.getD j 0 ^^^ v)≠Zf b:=λe=>by
    have:=congrArg (λl=>l[j-m]?) e;simp only[List.getElem?_set_self (show j-m<(Zf b).length by omega)]at this;rw[Ly I]at this;have h2:N.getD j 0 ^^^ v=(Zf b)[j-m]' I:=Aa this
    have h3:(Zf b)[j-m]' I=N.getD j 0:=by
     rw[t,Aq,Ly I];rfl
    exact rf hv (h2.trans h3)
   obtain⟨_,d⟩:=fQ hist acc few;rw[f]at hi ⊢;refine(RD.Mi Q hi ⟨hist,acc,few,Lh _,rfl,by rw[<- f,LF],I,by rw[LF];exact r,H,λR hR=>?_⟩).mono λe w2 k=>?_
   .have:=d.recs R (by rw[take_length];exact hR);rwa[<- hN]at this
   .obtain⟨rfl,g⟩:=k;exact⟨g,.inr (.inl ⟨hv,rfl⟩)⟩
end GT
end
section
open TR
open Go.AuditPlain(put)
open RD(In)
namespace GT
def u8_nat{n:Int}(w:(Lit.int .u8 n).wf=true):∃m:Nat,n=(m:Nat)/\m<256:=by
 have h1:IntKind.u8.min=0:=rfl;have h2:IntKind.u8.max=255:=rfl;simp only[Lit.wf,Le,Lk,h1,h2]at w;exact⟨n.toNat,I,I⟩
def gV{a:Addr}{N:Eb}(h:dV a w N):Calls prog 14 #[.pointer (some a)] w (Bs w N):=h
def zak{N:Eb}{p q:Ed}{m c:Nat}(h1:In w p N)(h2:In w q N)(hn:N.length=n)(hm:N.length=m)(d:0<n)(hl:n<=100000):Calls prog 16 #[.slice p n c,.slice q m k] w λe w2=>e = .returned (.bool true)/\Grown w w2:=by
 subst hn;rw[<- hm];have a:N≠[]:=λe=>by rw[e]at d;exact Ld d (Nat.lt_irrefl _)
 obtain⟨b,o,rfl,_⟩:=h1.2 a;obtain⟨b',f,rfl,_⟩:=h2.2 a;exact RD.zal h1 h2 hl
def Tw{N:Eb}(h:(N.set k x).length=n)(hl:33<=N.length):0<n:=by rw[LF]at h;omega
def Tx{N:Eb}(h:(N.set k x).length=n)(hl:N.length<=800):n<=100000:=by rw[LF]at h;omega
theorem mod_lt(k:Nat){n:Nat}(hn:33<=n):k % n<n:=Af _ I
def FY(hn:33<=n):¬((n:Int)=0)/\n≠0/\0<=(k:Int) % (n:Int)/\(k:Int) % (n:Int)<(n:Int)/\¬((n:Int)<33)/\((k:Int) % (n:Int)).toNat=k % n:=by
 have h:k % n<n:=Af _ I;have e:(k:Int) % (n:Int)=((k % n:Nat):Int):=by simp
 rw[e];exact⟨I,I,I,I,I,Int.toNat_natCast _⟩
def Fw{b:Nat}{t:Eg}{a:Ec}{v:Ei}(h:zx prog w (b,0,e) t a)(c:a[k]?=some v):w.cell? ⟨b,k,none⟩=some v/\w.frozen? ⟨b,k,none⟩=false:=by
 have hc:=TR.cell_of_row h c;rw[Lz]at hc;refine⟨hc,?_⟩;obtain⟨arr,fz,h1,h2,h3,f,d⟩:=h;have c:=(LL.1 c).1;have h2:0+a.length+e*_<=arr.size:=h2;unfold World.frozen?;rw[h1];have:=h3 k I;show(decide (fz.1<=k)&&decide (k<fz.2))=false;rw[AG,LH,LH];omega
def IZ{b:Nat}{t:Eg}{a:Ec}{v:Ei}(h:zx prog w (b,0,e) t a)(d:k<a.length):zx prog (w.setCell ⟨b,k,none⟩ v) (b,0,e) t (a.set k v):=by
 obtain⟨arr,fz,h1,h2,h3,g,f⟩:=h;have h2:0+a.length+e*_<=arr.size:=h2;refine⟨arr.setIfInBounds k v,fz,?_,by rw[AM,LF];exact h2,λi hi=>h3 i (by rw[AM]at hi;exact hi),g,λj c=>?_⟩
 .unfold World.setCell;show(w.heap.modify b _)[b]?=_;rw[AD,Y rfl];show Option.map _ w.heap[b]?=_;rw[show w.heap[b]?=_ from h1];rfl
 .rw[LF]at c;show(arr.setIfInBounds k v)[0+j]?=_;rw[AN,List.getElem?_set];by_cases e:k=j
  .subst e;rw[Y I,Y rfl,Y I,Y d]
  .rw[O I,O e];exact f j c
structure RB(w0 w:Ea)(N:Eb)(q e:Nat):Prop where
 g:Grown w0 w
 row:zx prog w (q,0,e) 5 (RD.qe N)
 lo:w0.heap.size<=q
 lt:∀y∈N,y<256
def zbN(a:List zy):∀y∈YB a,y<256:=by
 unfold YB;rw[<- Ae];exact RD.zeJ _ _ _
def Rb{a:Addr}{want:Ei}{h:List Ent}{N:Eb}(H:St (own w) w u (.pointer (some a)) want es h)(few:es.length<=8)(hN:N=YB (es.map (·.1))):Calls prog 14 #[.pointer (some a)] u λe w2=>∃q c x,e = .returned (.slice (some ⟨q,0,none⟩) N.length c)/\N.length<=c/\RB w w2 N q x:=by
 subst hN
 have b:ia es (λk=>ja ((es.map (·.1)).take k))=YB (es.map (·.1)):=by
  unfold ia;show _++kF (ja ((es.map (·.1)).take es.length))=_;rw[AO (by rw[Ls];exact Lh _)];unfold YB;rw[Ls,Ae];rfl
 have hl:=Vw (ij H) (by rw[Ls];exact few);refine(Ds (lo:=0) (ei H.tr λc _=>zero_le c) (λx hx=>rq (ij H _ (List.mem_map_of_mem hx))) I (by rw[<- b]at hl;unfold ia at hl;rw[Lm]at hl;omega)).mono λe w2 k=>?_;rw[b]at k;obtain⟨p,n,c,rfl,rfl,g,hc,_,_,k2,q,rfl⟩:=k;obtain⟨x,e,hx,hl⟩:=k2.2 (RD.zeI _);simp only[Value.slice.injEq,Ag,Addr.mk.injEq]at e;obtain⟨⟨rfl,f,_⟩,_,rfl⟩:=e;have d:zx prog w2 (x.1,0,x.2.2) 5 (RD.qe (YB (es.map (·.1)))):=by rw[f];exact hx
 exact⟨x.1,_,x.2.2,rfl,Al _ _,H.g.trans' g,d,Lj H.g.size hl,zbN _⟩
def SR{N:Eb}{q:Nat}(h:RB u w N q e)(a:k<N.length):w.cell? ⟨q,k,none⟩=some (.int .u8 (N.getD k 0:Nat))/\w.frozen? ⟨q,k,none⟩=false:=by
 refine Fw h.row ?_;unfold RD.qe;rw[Lw,Ly a,Aq,Ly a];rfl
def zdn{N:Eb}{q y:Nat}(h:RB u w N q e)(f:k<N.length)(c:y<256):RB u (w.setCell ⟨q,k,none⟩ (.int .u8 (y:Nat))) (N.set k y) q e:=by
 refine⟨KQ.qB h.g (KQ.jW w q k _) λj a=>by have a:j=q:=a;have:=h.lo;omega,?_,h.lo,λz b=>?_⟩
 .have d:=IZ (v:=.int .u8 (y:Nat)) h.row (k:=k) (by rw[RD.jP];exact f);have:(RD.qe N).set k (.int .u8 (y:Nat))=RD.qe (N.set k y):=by unfold RD.qe;rw[List.map_set]
  rwa[this]at d
 .rcases List.mem_or_eq_of_mem_set b with h1|rfl
  .exact h.lt z h1
  .exact c
def zfG{N:Eb}{q:Nat}(h:RB u w N q e):In w (some ⟨q,0,none⟩) N:=by
 refine⟨h.lt,λ_=>⟨q,0,rfl,λi x hi=>TR.cell_of_row h.row ?_⟩⟩;unfold RD.qe;rw[Lw,hi];rfl
def LQ(w0:Ea)(q v k n:Nat)(N:Eb)(e:Ew)(w2:Ea):Prop:=Grown w0 w2/\In w2 (some ⟨q,0,none⟩) N /\
 ((∃a,e = .returned (.tuple #[.pointer (some a),.int .i64 0])/\RowKit.Hid (dV a w2 N))\/(((v:Int)==0)=false/\e = .returned (.tuple #[.pointer none,.int .i64 13]))\/(((v:Int)==0)=false/\(k:Int) % (n:Int)<RowKit.wrap64 ((n:Int)-32)/\e = .returned (.tuple #[.pointer none,.int .i64 6])))
def zdL(h:33<=n/\n<=800)(h2:k % n+32<n):(k:Int) % (n:Int)<RowKit.wrap64 ((n:Int)-32):=by
 have e:(k:Int) % (n:Int)=((k % n:Nat):Int):=by simp
 rw[e];generalize k % n=m at h2;unfold RowKit.wrap64;omega
def zgm{N:Eb}{q m c v:Nat}{l:List Ent}{t want:Ei}{j:Ea}{B:Em}(p:kG w)(r:QG w)(H:St B w j t want es l)(few:es.length<=8)(hN:N=YB (es.map (·.1)))(R:RB w u N q m)(d:33<=N.length/\N.length<=800)(hx:N.getD (k % N.length) 0=x)(hv:v<256) :
  Calls prog 15 #[.slice (some ⟨q,0,none⟩) N.length c] (u.setCell ⟨q,k % N.length,none⟩ (.int .u8 (bits .xor .u8 (x:Int) (v:Int)))) (LQ w q v k N.length (N.set (k % N.length) (x ^^^ v))):=by
 have f:k % N.length<N.length:=mod_lt k d.1
 have b:x<256:=by
  rw[<- hx,Aq,Ly f];exact R.lt _ (AL f)
 rw[u8_xor_nat x v b hv];have i:=zdn R f (show x ^^^ v<256 from xor_lt_two_pow (n:=8) b hv);have hi:=zfG i;subst hx;refine(NF (KQ.jk p i.g) (r.grown i.g) (RD.C0 H) (ij H) (by rw[Ls];exact few) hN f hi).mono λe w2 k=>?_;obtain⟨g,k⟩:=k;refine⟨i.g.trans' g,RD.ym hi g,?_⟩;rcases k with⟨a,rfl,h⟩|⟨h,rfl⟩|⟨h,h2,rfl⟩
 .exact .inl ⟨a,rfl,A h⟩
 .exact .inr (.inl ⟨by simpa using h,rfl⟩)
 .exact .inr (.inr ⟨by simpa using h,zdL d h2,rfl⟩)
def FD(u:Ei)(at_:Int)(hat:(Lit.int .u16 at_).wf=true)(v_:Int)(hv_:(Lit.int .u8 v_).wf=true)(w:Ea)(hk:kG w)(h0:WO w)(hm:QG w)(hu:pU w u):Calls prog 5 #[u,.int .u16 at_,.int .u8 v_] w λe w2=>e = .returned (.bool true)/\Grown w w2:=by
 obtain⟨k,rfl,hk16⟩:=u16_nat hat;obtain⟨v,rfl,hv8⟩:=u8_nat hv_;have TK:=A hk;have T0:=A h0;have MC:=A hm;have HU:=A hu;clear hk h0 hu hat hv_ hm;go_enter func5,ntmps5
 go_wp2_with(first
  | (go_at_call 6;(with_reducible refine(xV T0.o).mono ?_);rintro e w1 ⟨rfl,hg⟩;have G1:=A hg;clear hg)
  | (go_at_call 7;(with_reducible refine(Sc G1.o TK.o T0.o HU.o).mono ?_);rintro e w2 ⟨a,q,c,es,fs,few,hc,rfl,H⟩;have H2:=A H;have few8:RowKit.Hid (es.length<=8):=A (by have:=IV H;omega);obtain⟨N,hN⟩:∃N,N=YB (es.map (·.1)):=⟨_,rfl⟩;have HN:=A hN;have HL:RowKit.Hid (N.length<=800/\33<=N.length):=A (by rw[hN];exact Vw (ij H) (by rw[Ls];exact few8.o));clear H hN)
  | (go_at_call 14;(with_reducible refine(Rb H2.o few8.o HN.o).mono ?_);rintro e w3 ⟨q3,c3,x3,rfl,hc3,k1⟩;have B3:=A k1;have HC3:=A hc3;clear k1;obtain⟨hz,hz2,hm0,hm1,h33,hmn⟩:=FY (k:=k) HL.o.2;obtain⟨hcell,hfro⟩:=SR B3.o (mod_lt k HL.o.2);clear hmn;generalize hx:N.getD (k % N.length) 0=x at hcell;have HX:=A hx;clear hx)
  | (go_at_call 15;(with_reducible refine(zgm TK.o MC.o H2.o few8.o HN.o B3.o ⟨HL.o.2,HL.o.1⟩ HX.o hv8).mono ?_);rintro e w4 ⟨k1,k2,hor⟩;have G4:=A k1;have I4:=A k2;clear k1 k2 hcell hfro;rcases hor with⟨a5,rfl,hb⟩|⟨hv0,rfl⟩|⟨hv0,h32,rfl⟩)
  | (go_at_call 14;(with_reducible refine(gV hb.o).mono ?_);rintro e w6 ⟨p6,n6,c6,rfl,k0,k1,k2,k3,k4⟩;have N6:=A k0;have G6:=A k1;have I6:=A k3;clear k0 k1 k2 k3 k4)
  | (go_at_call 16;(with_reducible refine(zak I6.o (RD.ym I4.o G6.o) N6.o (LF ..) (Tw N6.o HL.o.2) (Tx N6.o HL.o.1)).mono ?_);rintro e w7 ⟨rfl,k1⟩;have G7:=A k1;clear k1))
 .go_ret
  exact⟨rfl,(G4.o.trans' G6.o).trans' G7.o⟩
 all_goals(go_ret;exact⟨rfl,G4.o⟩)
end GT
end
end Go.AEv
namespace Go.Proofs.YtaffhpgaagnjfaaGreatDoor
open Go.ChangeShapes Go.WideShapes Go.ChangeAt Go.RowKit
open Go.AEv (tabs WO Sl4 J2)
def own:ownKnob Tryz.prog.godebug=none:=U
def tW:Tryz.prog.globals.size=8:=U
def K7{W:Ea}(h:laidMetH prog Rows.auditReadsRow.laid W)(a:W.ShapedOpen prog):WO W:=by
 rw[MakeChecks.laidMetH_plain _ _ _ wn]at h;obtain⟨ps,⟨g0,t0,cs0,f0,p0,q0,hg0,ht0,Q,H,⟨g1,t1,cs1,f1,p1,q1,e,u,k,z,⟨g2,t2,cs2,f2,p2,q2,d,r,j,y,⟨g3,t3,cs3,f3,p3,q3,hg3,T,P,x,⟨g4,t4,cs4,f4,p4,q4,c,m,i,w,⟨g5,t5,cs5,f5,p5,q5,b,l,f,v,_⟩,_⟩,_⟩,_⟩,_⟩,_⟩,_⟩:=h;clear H x;obtain rfl:=Aa ((show Tryz.prog.globalNamed "math/bits.deBruijn64tab" = some 3 by kernel_rfl).symm.trans e);obtain rfl:=Aa ((show(Tryz.prog.globals[3]?).map (·.type)=some 451 by kernel_rfl).symm.trans u);obtain rfl:=Aa ((show Tryz.prog.globalNamed "internal/strconv.uint64pow10" = some 6 by kernel_rfl).symm.trans d);obtain rfl:=Aa ((show(Tryz.prog.globals[6]?).map (·.type)=some 638 by kernel_rfl).symm.trans r);obtain rfl:=Aa ((show Tryz.prog.globalNamed "arbac/keccak.rounds" = some 1 by kernel_rfl).symm.trans c);obtain rfl:=Aa ((show(Tryz.prog.globals[1]?).map (·.type)=some 401 by kernel_rfl).symm.trans m);obtain rfl:=Aa ((show Tryz.prog.globalNamed "arbac/keccak.turns" = some 2 by kernel_rfl).symm.trans b);obtain rfl:=Aa ((show(Tryz.prog.globals[2]?).map (·.type)=some 403 by kernel_rfl).symm.trans l);letI:=AEv.unk0;let β:AEv.Inj:=λg=>if g<100 then some (g,0,0) else none
 refine⟨β,λ_ hg=>Y hg,λp hp=>?_⟩;simp only[tabs,Lf,Lq,Lo]at hp;rcases hp with rfl|rfl|rfl|rfl
 .have h1:=AEv.QO (zs:=AEv.rounds.map Int.ofNat) underlying401 underlying106 zh8 w U;have:=AEv.ni (β:=β) (t:=401) (n:=24) a (by rw[tW];decide) U c i h1 U;rwa[LZ]at this
 .have h1:=AEv.QO (zs:=AEv.turns.map Int.ofNat) underlying403 underlying3 c3 v U;have:=AEv.ni (β:=β) (t:=403) (n:=25) a (by rw[tW];decide) U b f h1 U;rwa[LZ]at this
 .have h1:=AEv.QO (zs:=AEv.zb2.map Int.ofNat) underlying451 underlying5 c5 z U;have:=AEv.ni (β:=β) (t:=451) (n:=64) a (by rw[tW];decide) U e k h1 U;rwa[LZ]at this
 .have h1:=AEv.QO (zs:=AEv.zb7.map Int.ofNat) underlying638 underlying106 zh8 y U;have:=AEv.ni (β:=β) (t:=638) (n:=20) a (by rw[tW];decide) U d j h1 U;rwa[LZ]at this
def Tp{W : World}(b : W.ShapedOpen prog) : AEv.NV.QG W := by
  have f : (((begin prog (λ_ _ => 0) default).world.heap[0]?).bind Obj.row?).map (λp => (p.1.size, p.2)) = some (1, 3) := by kernel_rfl
  obtain⟨⟨zero, l⟩, g, c⟩ := LU.1 f;simp only[Prod.mk.injEq] at c;obtain⟨c, rfl⟩ := c;obtain⟨cs, j, m, i⟩ := b.1 0 zero 3 (by rw[tW]; decide) g;obtain⟨k, d, _, h⟩ := i U;have a : Tryz.prog.cellTypes Tryz.prog.depth 3 = some [3] := by kernel_rfl
  rw[a] at d;cases d;have hl : 0 < cs.size := by omega
  have hv : cs[0]?=some (cs[0]' hl) := Av hl;obtain⟨u, c1, c2⟩ := h 0 _ hv;cases c1;generalize cs[0]' hl = v at hv c2;have e : Tryz.prog.underlying 3 = some (.int .i64) := underlying3;unfold Cell.ok at c2;rw[e] at c2;cases v <;> simp only at c2
  all_goals first
    | (obtain⟨rfl, _⟩ := c2
       exact⟨_, by unfold World.cell?; rw[j]; exact hv⟩)
    | exact c2.elim
def lifted(os:Os)(started:os.Started)(H:Type)(enc:TypeId×Value->H) :
  ReturnsInHanded {} checked os 5 .any (λw args=>(Rows.auditReadsSpec.pre enc prog Tryz.f5 [] false w args/\laidMetH prog Rows.auditReadsRow.laid w)/\sizedMet enc prog Tryz.f5 (OpenSpec.ofChange Rows.auditReadsSpec) false w args)
   (Rows.auditReadsSpec.post enc prog Tryz.f5 false true false false):=by
 refine AEv.cU (C:=checked) (tb:=4) own started U func5 cf2 U rfl U underlying4 ?_
  (ChangeSpec.witness_shaped (enc:=enc) (C:=checked) (os:=os) (X:=λw _=>laidMetH prog Rows.auditReadsRow.laid w) false (laidAll prog os Rows.auditReadsRow.laid)
   #[.slice none 0 0,.int .u16 0,.int .u8 0] 8 (laidAll_os _ _ _)
   (shaped_of_ZipB (wz os) (wh os)) (wo os) (wp os H enc) (ws os H enc)
   (by rw[MakeChecks.laidMetH_plain _ _ _ wn];exact laidMet_laidAll _ (wf os) (wi os))) ?_
 .intro e d;have d:e.length=3:=by rw[d,params5];rfl
  match e,d with
  | [_,_,_],_=>rfl
 .intro W base args e Q b l m c;have a:∀(j:Nat) t v,Tryz.f5.params[j]?=some t->args[j]?=some v->Value.okWide prog W .any base t v:=b;have n:DataW.TrodAll enc prog W 0 (λ_=>true) true Tryz.f5.params.toList args.toList e Q:=l;rw[params5]at n a;obtain⟨i,x,d0,ds0,p0,q0,k,rfl,rfl,T,P⟩:=trodAll_cons n;obtain⟨v1,u,d1,ds1,p1,q1,rfl,rfl,rfl,h1,z⟩:=trodAll_cons P;obtain⟨v2,r,d2,ds2,p2,q2,rfl,rfl,rfl,h2,y⟩:=trodAll_cons z;obtain⟨rfl,rfl,rfl⟩:=trodAll_nil y;obtain rfl:args = #[i,v1,v2]:=by cases args;simp_all
  have hit:=vY (a 0 22 i rfl rfl) T;obtain⟨n1,rfl⟩:=okWide_int underlying50 (a 1 50 v1 rfl rfl);obtain⟨p,e1,_,g⟩:=DataW.trod_int underlying50 (h1.choose_spec:DataW.trod _ _ _ _ _ _ _ _ [_]=_);obtain rfl:n1=p:=by cases e1;rfl
  obtain⟨n2,rfl⟩:=okWide_int underlying5 (a 2 5 v2 rfl rfl);obtain⟨z2,e2,_,f⟩:=DataW.trod_int underlying5 (h2.choose_spec:DataW.trod _ _ _ _ _ _ _ _ [_]=_);obtain rfl:n2=z2:=by cases e2;rfl
  exact(AEv.GT.FD i n1 g n2 f W (nj (K7 m c)) (K7 m c) (Tp c) hit).mono λ_ _ h=>⟨h.2,h.1⟩
open Go.ChangeShapes Go.WideShapes Go.ChangeAt Go.RowKit
def uo:joinedFacts prog 5 Tryz.f5 Rows.auditReadsSpec Rows.auditReadsRow=true:=by
 unfold joinedFacts;exact AEv.ZB (AEv.ZB (AEv.ZB (AEv.ZB (AEv.ZB (AEv.ZB (AEv.ZB (AEv.ZB (AEv.ZB (AEv.ZB (AEv.ZB (AEv.ZB (AEv.ZB (AEv.ZB (AEv.ZB (AEv.ZB (AEv.ZB (AEv.ZB (AEv.ZB (AEv.ZB (AEv.ZB (AEv.ZB (AEv.ZB (AEv.ZB (AEv.ZB (AEv.ZB (AEv.ZB (AEv.ZB (AEv.ZB (AEv.ZB (AEv.ZB (cf1) cf2) cf3) cf4) cf5) cf6) cf7) cf8) cf9) zjW) zjV) zjU) zjT) zjS) zjR) zjQ) zjP) zjO) zjN) zjM) zjL) zjK) zjJ) zjI) zjH) zjG) zjF) zjE) zjD) zjC) zjB) zjA
def Fv:Rows.AuditReadsSaid:=
 OpenClaim.holds_of_wide 5 Tryz.f5 rfl rfl rfl rfl rfl rfl rfl ⟨rfl,rfl,rfl,rfl,rfl⟩ rfl rfl rfl rfl rfl U func5 uo
  (of_decide_eq_true U) (by unfold Func.isWrapper;first|(rw[Y (by decide +kernel)];kernel_rfl)|(rw[O (by decide +kernel)];exact⟨rfl,rfl⟩))
  (λos started H enc _=>lifted os started H enc)
theorem auditReads_holds:Rows.AuditReadsCardSaid:=
 Claim7.holds_tied_plain_at .later [] [.data,.data,.data,.data,.data,.data,.pinned] true (true, "0c87422db3d29feb9bc90f90323f6172cda45bea840dfa60a054d18854ce3ea6") true
  Fv (λ_ h=>by cases h) zcL (λ_ h=>by cases h) auditReads_row_tie rfl ⟨rfl,rfl⟩ Nd rfl
  (λf fn d b=>by
   obtain rfl:f=5:=Aa ((show Tryz.prog.funcNamed "arbac/arbaclaw54.AuditReads" = some 5 by kernel_rfl).symm.trans d) |>.symm;obtain rfl:fn=Tryz.f5:=(Aa (Tryz.func5.symm.trans b)).symm
   exact⟨F4,λj t c=>by
    rw[params5]at c;have hm:t∈[22,50,5]:=by simpa using Array.mem_of_getElem? c
    have a:([22,50,5].all λu=>!Tryz.prog.wantsStandIn u)=true:=U
    exact(show Tryz.prog.wantsStandIn t=false by simpa using Ad.1 a t hm)⟩)
  Pm
#print axioms auditReads_holds
end Go.Proofs.YtaffhpgaagnjfaaGreatDoor
