/- Trails: H9x0. Conditions: each theorem's. -/
import Derived.Test.YtaffhpgaagnjfaaGreatDoorL9a
set_option linter.all false
open Nat Go.Proofs.Tryz Go.IntWalk
open Go.Proofs
set_option maxHeartbeats 40000000
set_option maxRecDepth 100000
namespace Go.AEv
variable{w:Ea}
open Go
open Go.AuditPlain(zm)
open KT(zB)
open RD(recAt Wr Low qO Zj X9 aE ziz Mk ef)
open KW(WideB J9 kj JZ)
open KQ(jR qB ky qN)
open NV(QG Bp jn)
section
open TR
open Go.AuditPlain(put)
open RD(In Qx)
namespace GT
noncomputable def ia(es:List Ent)(D:Nat->Nat->Nat):List Nat:=(put es.length++qO (es.map (·.1)))++kF (D es.length)
def Bs(w:Ea)(N:Eb)(e:Ew)(w2:Ea):Prop:=∃p n c,e = .returned (.slice p n c)/\N.length=n/\Grown w w2/\N.length<=c/\In w2 p N/\(∀a,p=some a->w.heap.size<=a.block)/\RD.jU w.heap.size w2 (.slice p n c) N/\∃q,p=some ⟨q,0,none⟩
def zkN(w:Ea)(L:Eb)(N:Nat)(e:Ew)(w2:Ea):Prop:=∃q c,e = .returned (.slice (some ⟨q,0,none⟩) N c)/\Grown w w2/\RD.jU w.heap.size w2 (.slice (some ⟨q,0,none⟩) N c) L
def zjy{p:Ed}{n c:Nat}{L:Eb}(d:In w p L)(a:L≠[])(hlen:L.length<=100000)(hn:L.length=n):Calls prog 18 #[.slice p n c] w (RD.R1 w L):=by
 subst hn;obtain⟨b,o,rfl,_⟩:=d.2 a;exact RD.P4 d a hlen
def zf8{B:Nat}{b:Nat}{L:Eb}{N:Nat}(h:Wr B w b L)(hL:∀y∈L,y<256)(hlen:L.length<=100000)(hne:L≠[])(hN:L.length=N):Calls prog 39 #[.pointer (some ⟨b,0,none⟩)] w (zkN w L N):=by
 obtain⟨p,n,c,hr,hb,hn⟩:=h.ex;obtain⟨h1,_⟩:=RD.yj hr;have HI:=A (RD.Ku hb hL);have HE:=A hlen;have HN:=A hne;have HL:=A hn.symm;have HNN:=A hN;clear h hr hb hL hlen hne hn hN;go_enter func39,ntmps39;go_wp2_with(go_at_call 18;(with_reducible refine(zjy HI.o HN.o HE.o HL.o).mono ?_);rintro e w1 ⟨q',c',rfl,k1,k2⟩;have K:=A (And.intro k1 k2);clear k1 k2)
 go_ret
 have hk:=K.o.2;rw[HNN.o]at hk;exact⟨q',c',by rw[HNN.o];rfl,K.o.1,hk⟩
def sq(A B:List zy):qO (A++B)=qO A++qO B:=by unfold qO;rw[List.flatMap_append]
def lK(a:List zy)(j:Nat):(qO (a.take j)).length<=(qO a).length:=by
 have:qO a=qO (a.take j)++qO (a.drop j):=by rw[<- sq,List.take_append_drop]
 rw[this,Lm];omega
def FB{a:List zy}{j:Nat}{R:zy}(h:a[j]?=some R):(qO (a.take j)).length+R.qC.bytes.length<=(qO a).length:=by
 have h1:=lK a (j+1);rw[aE h,Lm]at h1;have:R.qC.bytes.length<=(zm R.qC.bytes).length:=by unfold AuditPlain.zm;rw[Lm];omega
 omega
def zbP(n:Nat)(c:List zy){f:Ek}(b:∀i,f i<256):∀y∈(put n++qO c)++kF f,y<256:=by
 refine RD.jG (RD.jG RD.yK λy a=>?_) λy a=>?_
 .unfold qO at a;obtain⟨R,_,a⟩:=AE.1 a;exact RD.jG RD.yK (RD.nM R) y a
 .unfold kF at a;obtain⟨i,_,rfl⟩:=Lv.1 a;exact b i
def zan{w2:Ea}{lo:Nat}{es:List Ent}{p:Ed}{c:Nat}(h:yq 42 14 lo w (.slice p es.length c) es.length (cellsOf es))(g:Grown w w2)(hl:Zw w es){j:Nat}(f:j<es.length):∃(b o:Nat) (R:zy) (q1 q2:Ed) (m1 m2 d1 d2:Nat),p=some ⟨b,o,none⟩/\es[j]?=some (R,.slice q1 m1 d1,.slice q2 m2 d2)/\recAt w2 b (o+j*14) R q1 q2 m1 m2 d1 d2/\AtS w (.slice q1 m1 d1) R.up/\AtS w (.slice q2 m2 d2) R.down:=by
 rcases h.ex with⟨i,_⟩|⟨x,e,hx,_⟩
 .omega
 .simp only[Value.slice.injEq]at e;obtain⟨rfl,_,rfl⟩:=e;obtain⟨S,q1,q2,m1,m2,d1,d2,a,d,hd⟩:=RD.PF hl f;exact⟨x.1,x.2.1,S,q1,q2,m1,m2,d1,d2,rfl,a,kj (RD.Qu hx a) g,d,hd⟩
def ui(X:Eb)(f:Ek):X++kF f≠[]:=λe=>by
 have:=(AW.1 e).2;have hl:=dH f;rw[this]at hl;cases hl
def Ds{lo:Nat}{a:Addr}{es:List Ent}{D:Nat->Nat->Nat}(h:qY lo w (.pointer (some a)) es D)(hw:∀e∈es,WideB e.1)(few:es.length<=4000)(hlen:(put es.length++qO (es.map (·.1))).length<=80000):Calls prog 14 #[.pointer (some a)] w (Bs w (ia es D)):=by
 obtain⟨b,o,p,c,hb,ho,hc,rfl,t1,t2,t3,t4,t5,t6⟩:=h.cells;have H:=A h;have HW:=A hw;have HROW:=A t4;have LN:=A hlen;have FEW:=A few;have hw64:IntKind.u64.wrap (es.length:Int)=(es.length:Int):=u64_in _ I;clear h hw t2 t3 t4 t5 t6 hlen few;go_enter func14,ntmps14
 go_wp2_with(first
  | (go_at_call 35;(with_reducible refine RD.M0.mono ?_);rintro e w1 ⟨bw,rfl,g1,k1⟩;have G1:=A g1;have W1:=A k1;have hc1:=RD.zz t1 g1;clear g1 k1)
  | (go_at_call 36;(with_reducible refine(KW.uint_w W1.o G1.o.size (by have:=FEW.o;omega) Oc).mono ?_);rintro e w2 ⟨rfl,k1,k2,_⟩;have W2:=A k1;have G2:=A (Qx G1.o k2);have hc2:=RD.zz t1 (Qx G1.o k2);clear k1 k2))
 .go_loopg [23] es.length (λk i wr=>ziz w bw es.length (es.map (·.1)) k i wr)
  case atStart=>exact⟨0,I,rfl,G2.o,by show Wr _ _ _ (put es.length++[]);rw[AJ];exact W2.o⟩
  case round=>
   obtain⟨j,hj,rfl,hg,hwr⟩:=hrel;have G3:=A hg;have W3:=A hwr;clear hg hwr
   cases gk with
   | zero=>
    have hjm:¬((j:Int)<(es.length:Int)):=by omega
    have hjl:RowKit.Hid (j=es.length):=A I
    have LEN:RowKit.Hid ((put es.length++qO ((es.map (·.1)).take j)).length<=90000):=A (by
     have h2:=lK (es.map (·.1)) j;have:=LN.o;rw[Lm]at this ⊢
     omega)
    have LE:RowKit.Hid (((put es.length++qO ((es.map (·.1)).take j))++kF (D es.length)).length<=100000):=A (by rw[Lm,dH];have:=LEN.o;omega);have LT:RowKit.Hid (∀y∈(put es.length++qO ((es.map (·.1)).take j))++kF (D es.length),y<256):=A (zbP _ _ (H.o.lt es.length));obtain⟨N,hN⟩:∃N,((put es.length++qO ((es.map (·.1)).take j))++kF (D es.length)).length=N:=⟨_,rfl⟩
    have LNN:=A hN;clear hN;obtain⟨cs,hcs⟩:∃cs,cs=zB 32 (D es.length):=⟨_,rfl⟩
    have HCS:=A hcs;clear hcs
    go_wp2_with(first
     | (go_at_call 8;(with_reducible refine(wX (H.o.grown G3.o) HCS.o).mono ?_);rintro e w6 ⟨rfl,k1⟩;have K6:=A k1;clear k1)
     | (refine KQ.yr _ _ (KQ.yf w6 rfl) HCS.o rfl rfl rfl rfl ?_;intro w7 k1 k2;have R7:=A k1;have G7:=A (K6.o.trans' (qB (zc _ _) k2 (λk hk=>Nat.le_of_eq (Eq.symm hk))));have L7:=A (LK (U5 _ _) k2.2.1);clear k1 k2)
     | (go_at_call 38;(with_reducible refine(Mk (Zj W3.o G7.o) (Lj G3.o.size G7.o.size) (PR (H.o.lt es.length) HCS.o R7.o) (dH _) LEN.o).mono ?_);rintro e w8 ⟨rfl,k1,k2,k3⟩;have W8:=A k1;have G8:=A (Qx (G3.o.trans' G7.o) k2);clear k1 k2 k3)
     | (go_at_call 39;(with_reducible refine(zf8 W8.o LT.o LE.o (ui _ _) LNN.o).mono ?_);rintro e w9 ⟨q9,c9,rfl,k1,k2⟩;have K9:=A (And.intro k1 k2);clear k1 k2))
    go_ret
    obtain⟨k1,k2⟩:=K9.o
    have hall:(put es.length++qO ((es.map (·.1)).take j))++kF (D es.length)=ia es D:=by
     unfold ia;rw[hjl.o,AO (by rw[Ls];exact Lh _)]
    have lt:=LT.o;have ne:=ui (put es.length++qO ((es.map (·.1)).take j)) (D es.length);have hn:=LNN.o;rw[hall]at k2 lt hn ne;obtain⟨x,e,_,hlo⟩:=k2.2 ne;simp only[Value.slice.injEq,Ag,Addr.mk.injEq]at e;obtain⟨⟨rfl,_,_⟩,_,rfl⟩:=e;have hlo2:=Lj G8.o.size hlo
    exact⟨_,_,_,rfl,hn,G8.o.trans' k1,Al _ _,RD.Ku k2 lt,λa ha=>by cases ha;exact hlo2,RD.cR k2 G8.o.size,_,rfl⟩
   | succ k=>
    have hjm:(j:Int)<(es.length:Int):=by omega
    obtain⟨yb,yo,R,p1,p2,n1,n2,c1,c2,rfl,he,hrec,hu,hd'⟩:=zan HROW.o G3.o H.o.lists (j:=j) I;obtain⟨d0,d1,d2,d3,d4,d5,d6,d7,d8,d9,d10,d11,d12,d13⟩:=hrec;have HU:=A hu;have HDn:=A hd';have NTH:RowKit.Hid ((es.map (·.1))[j]?=some R):=A (by rw[Lw,he];rfl);have WIDE:=A (HW.o _ (LX he))
    have LEN:RowKit.Hid ((put es.length++qO ((es.map (·.1)).take j)).length+R.qC.bytes.length<=90000):=A (by
     have h2:=FB NTH.o;have:=LN.o;rw[Lm]at this ⊢
     omega)
    clear he hu hd'
    go_wp2_with(first
     | (go_at_call 32;(with_reducible refine(KW.oR WIDE.o ((qh.zH (G3.o.trans' (zc _ _))).atS HU.o) ((qh.zH (G3.o.trans' (zc _ _))).atS HDn.o)).mono ?_);rintro e w4 ⟨b4,o4,c4,rfl,k1,k2,k3,k4⟩;have I4:=A k1;have G4:=A k2;have N4:=A k3;clear k1 k2 k3 k4)
     | (go_at_call 37;(with_reducible refine(RD.Dp (Zj (Zj W3.o (zc _ _)) G4.o) (Lj (Lj G3.o.size (zc _ _).size) G4.o.size) I4.o (ef (Zj W3.o (zc _ _)) G4.o N4.o) (X9 R) LEN.o).mono ?_);rintro e w5 ⟨rfl,k1,k2⟩;have W5:=A k1;have L5:=A k2;clear k1 k2))
    go_roundg k
    case measure=>omega
    case rel=>exact⟨j+1,I,(by rw[show RowKit.wrap64 ((j:Int)+1)=(j:Int)+1 by unfold RowKit.wrap64;have:=FEW.o;omega];rfl),Qx ((G3.o.trans' (zc _ _)).trans' G4.o) L5.o,by rw[aE NTH.o,<- Ae];exact W5.o⟩
end GT
end
section
open TR
namespace GT
section
variable{lo:Nat}{w:Ea}{a:Addr}{es:List Ent}{D:Nat->Nat->Nat}{R:zy}{p1 p2:Ed}{n1 n2 c1 c2:Nat}
def Rm(TK:kG w)(hm:QG w)(h:qY lo w (.pointer (some a)) es D)(hf:es.length<4000)(hlo:lo<=w.heap.size)(hg:JZ R)(hn:R.number=(es.length:Int)+1)(h1:AtS w (.slice p1 n1 c1) R.up)(h2:AtS w (.slice p2 n2 c2) R.down):Calls prog 12 #[.pointer (some a),Zy R p1 p2 n1 n2 c1 c2] w (H9 lo w es R):=by
 obtain⟨b,o,p,c,hb,ho,hc,rfl,t1,t2,t3,t4,t5,t6⟩:=h.cells;have A0:∀q,RowKit.Hid (AS lo w ((w.alloc (.cells #[.int .i64 R.number,.int .i64 R.version,.string R.tenant,.int .i64 R.session,.string R.action,.string R.path,.int .i64 R.day,.bool R.granted,.int .i64 R.user,.slice p1 n1 c1,.slice p2 n2 c2,.string R.does,.string R.at_,.bool R.deep] 42)).drewN q) b o p c hb ho hc es D R p1 p2 n1 n2 c1 c2):=λq=>A (zeB TK hm h t1 t2 t4 t6 t5 h1 h2 rfl q);have e1:(R.number==(es.length:Int)+1)=true:=by simpa using hn
 have e2:IntKind.i64.wrap ((es.length:Int)+1)=(es.length:Int)+1:=i64_in _ I;have e3:RowKit.wrap64 ((es.length:Int)+1)=(es.length:Int)+1:=by unfold RowKit.wrap64;omega
 have e4:decide (4000<=(es.length:Int))=false:=LC I;have e5:¬(4000<=(es.length:Int)):=by omega
 have e6:(R.number != (es.length:Int)+1)=false:=by simpa using hn
 have v1:decide (R.version<0)=false:=LC (by have:=hg.version.1;omega);have v2:decide (2147483647<R.version)=false:=LC (by have:=hg.version.2;omega);have v3:decide (R.day<0)=false:=LC (by have:=hg.day.1;omega);have v4:decide (30000<R.day)=false:=LC (by have:=hg.day.2;omega);have HG:=A hg;have HF:=A hf;have HLO:=A hlo;have x1:=RD.zz t1 (zc w (.cells #[.int .i64 R.number,.int .i64 R.version,.string R.tenant,.int .i64 R.session,.string R.action,.string R.path,.int .i64 R.day,.bool R.granted,.int .i64 R.user,.slice p1 n1 c1,.slice p2 n2 c2,.string R.does,.string R.at_,.bool R.deep] 42));clear TK hm h hf hlo hg hn h1 h2 t1 t2 t3 t4 t5 t6;go_enter func12,ntmps12;go_wp2_with fail
 go_quiet (fail)
 case _=>
  generalize hw0:(w.alloc _).drewN _=w0;have A1:RowKit.Hid (AS lo w w0 b o p c hb ho hc es D R p1 p2 n1 n2 c1 c2):=by rw[<- hw0];exact A0 _
  clear A0 x1 e1 e2 e3 e4 e6 v1 v2 v3 v4 hw0;obtain⟨x0,x1,x2,x3,x4,x5,x6,x7,x8,x9,x10,x11,x12,x13⟩:=A1.o.box;have z1:=A1.o.z1
  go_wp2_with(first
   | (go_at_call 30;(with_reducible refine(Hc HG.o A1.o.mc A1.o.up A1.o.down).mono ?_);rintro e w1 ⟨er,rfl,k1⟩;have A2:=A (A1.o.grown k1);clear k1 x0 x1 x2 x3 x4 x5 x6 x7 x8 x9 x10 x11 x12 x13 z1;have z1:=A2.o.z1;cases her:(er != 0)))
  .go_loopg [58] es.length (λg i wr=>zeR w1 es.length g i wr)
   case atStart=>exact⟨0,I,rfl,RD.qP _⟩
   case round=>
    obtain⟨j,hj,rfl,hgr⟩:=hrel;have A3:=A (A2.o.grown hgr);have GR:=A hgr;clear hgr z1
    cases gk with
    | zero=>
     have hjm:¬((j:Int)<(es.length:Int)):=by omega
     obtain⟨cs,hcs⟩:∃cs,cs=zB 32 (D es.length):=⟨_,rfl⟩
     have HC:=A hcs;clear hcs
     go_wp2_with(first
      | (go_at_call 8;(with_reducible refine(wX A3.o.tr HC.o).mono ?_);rintro e w8 ⟨rfl,k1⟩;have A4:=A (A3.o.grown k1);clear k1)
      | (refine KQ.yr _ _ (KQ.yf w8 rfl) HC.o rfl rfl rfl rfl ?_;intro w9 k1 k2;have R9:=A k1;have G9:=A (qB (zc _ _) k2 (λk hk=>Nat.le_of_eq (Eq.symm hk)));have G9L:=A (LK (U5 _ _) k2.2.1);clear k1 k2))
     have A9:=A (A4.o.grown G9.o);have A5:=A (A9.o.grown (zM _));have R5:=A (KQ.kq R9.o (zM w9));have L5:RowKit.Hid (w8.heap.size<w9.drew.heap.size):=A (G9L.o);obtain⟨x0,x1,x2,x3,x4,x5,x6,x7,x8,x9,x10,x11,x12,x13⟩:=A5.o.box;simp only[Act.put];go_cut [10] from 91 to 95 (λs10 wx=>DSt lo w wx s10 b o p c hb ho hc es D R p1 p2 n1 n2 c1 c2)
     case first=>
      obtain⟨y0,y1,y2,y3,y4,y5,y6,y7,y8,y9,y10,y11,y12,y13⟩:=(A9.o.grown (zc w9 (.cells Oe 29))).box
      go_region_with(first
       | (go_at_call 32;(with_reducible refine(KW.oR HG.o.toWideB A5.o.up A5.o.down).mono ?_);rintro e w10 ⟨eb,eo,ec,rfl,k1,k2,k3,k4⟩;have I10:=A k1;have G10:=A (k2);have A10:=A (A5.o.grown k2);have R10:=A (KQ.kq R5.o (k2));have L10:=A (LK L5.o (k2).size);clear k1 k2 k3 k4)
       | (go_at_call 32;(with_reducible refine(KW.oR HG.o.toWideB ((A9.o.grown (zc _ _)).grown (zM _)).up ((A9.o.grown (zc _ _)).grown (zM _)).down).mono ?_);rintro e w10 ⟨eb,eo,ec,rfl,k1,k2,k3,k4⟩;have I10:=A k1;have G10:=A (((zc _ _).trans' (zM _)).trans' k2);have A10:=A (A9.o.grown G10.o);have R10:=A (KQ.kq R9.o G10.o);have L10:=A (LK G9L.o G10.o.size);have DB:=A ((KQ.yf w9 rfl).grown ((zM _).trans' k2));clear k1 k2 k3 k4)
       | (go_at_call 31;(with_reducible refine(BG DB (KQ.jk A10.o.tk (zc _ _)) (KV HG.o (A10.o.tr.lt es.length) HC.o R10.o L10.o I10.o (RD.qP _) (RD.qP _)) Cj).mono ?_);rintro e w11 ⟨⟨f,hf,rfl⟩,k2⟩;obtain⟨ds,hds⟩:∃ds,ds=zB 32 f:=⟨_,rfl⟩;rw[<- hds];have DS:=A hds;have F11:=A hf;obtain⟨hdl,w12,hst,k3,k4⟩:=nA (DB.o.grown ((zc _ _).trans' k2)) hds;have R12:=A k3;have A12:=A (A9.o.BD (G10.o.trans' ((zc _ _).trans' k2)) (Lh _) k4);clear k3 k4;clear k2 hds hf)
       | (go_at_call 31;(with_reducible refine(BG True.intro (KQ.jk A10.o.tk (zc _ _)) (KV HG.o (A10.o.tr.lt es.length) HC.o R10.o L10.o I10.o (RD.qP _) (RD.qP _)) Cj).mono ?_);rintro e w11 ⟨⟨f,hf,rfl⟩,k2⟩;obtain⟨ds,hds⟩:∃ds,ds=zB 32 f:=⟨_,rfl⟩;rw[<- hds];have DS:=A hds;have F11:=A hf;obtain⟨hdl,w12,hst,k3,k4⟩:=nA (KQ.yf w11 (z:=Oe) rfl) hds;have R12:=A k3;have A12:=A ((A10.o.grown ((zc _ _).trans' k2)).BD (zc _ _) (Lh _) k4);clear k3 k4;clear k2 hds hf)
       | (go_at_call 31;(with_reducible refine(BG True.intro (KQ.jk A10.o.tk ((zc _ _).trans' (zc _ _))) (KV HG.o (A10.o.tr.lt es.length) HC.o R10.o L10.o I10.o (RD.qP _) (zc _ _)) Cj).mono ?_);rintro e w11 ⟨⟨f,hf,rfl⟩,k2⟩;obtain⟨ds,hds⟩:∃ds,ds=zB 32 f:=⟨_,rfl⟩;rw[<- hds];have DS:=A hds;have F11:=A hf;obtain⟨hdl,w12,hst,k3,k4⟩:=nA (zgT (KQ.yf (w10.alloc _) rfl) k2) hds;have R12:=A k3;have A12:=A (A10.o.BD (((zc _ _).trans' (zc _ _)).trans' k2) (le_succ _) k4);clear k3 k4;clear k2 hds hf)
       | (go_at_call 31;(with_reducible refine(BG True.intro (KQ.jk A10.o.tk ((zc _ _).trans' (zc _ _))) (zcM HG.o (A10.o.tr.lt es.length) HC.o R10.o L10.o I10.o (RD.qP _)) Cj).mono ?_);rintro e w11 ⟨⟨f,hf,rfl⟩,k2⟩;obtain⟨ds,hds⟩:∃ds,ds=zB 32 f:=⟨_,rfl⟩;rw[<- hds];have DS:=A hds;have F11:=A hf;obtain⟨hdl,w12,hst,k3,k4⟩:=nA ((KQ.yf w10 rfl).grown ((zc _ _).trans' k2)) hds;have R12:=A k3;have A12:=A (A10.o.BD (((zc _ _).trans' (zc _ _)).trans' k2) (Lh _) k4);clear k3 k4;clear k2 hds hf))
      all_goals(go_wp2_with fail;go_meet;exact⟨_,_,_,rfl,F11.o,DS.o,R12.o,A12.o⟩)
     case rest=>
      obtain⟨T,ds,f,rfl,hf,hds,hr,hA⟩:=hcut;clear x0 x1 x2 x3 x4 x5 x6 x7 x8 x9 x10 x11 x12 x13;have F:=A hf;have DS:=A hds;have hdl:ds.length=32:=by rw[hds,KT.qT]
      have h29:=under29;have hi29:=Qz hds;have AC:=A hA;have RC:=A hr;clear hf hds hr hA;obtain⟨x0,x1,x2,x3,x4,x5,x6,x7,x8,x9,x10,x11,x12,x13⟩:=AC.o.box;have z1:=AC.o.z1;have z2:=AC.o.z2;have hrd:=RC.o;have KS:∀wx,Grown wc wx->(wx.cell? ⟨b,o,none⟩=some (.slice p es.length c)/\wx.cell? ⟨b,o+1,none⟩=some (.slice (some ⟨hb,ho,none⟩) (es.length+1) hc)/\wx.cell? ⟨w.heap.size,0,none⟩=some (.int .i64 R.number)/\wx.cell? ⟨w.heap.size,1,none⟩=some (.int .i64 R.version)/\wx.cell? ⟨w.heap.size,2,none⟩=some (.string R.tenant)/\wx.cell? ⟨w.heap.size,3,none⟩=some (.int .i64 R.session)/\wx.cell? ⟨w.heap.size,4,none⟩=some (.string R.action)/\wx.cell? ⟨w.heap.size,5,none⟩=some (.string R.path)/\wx.cell? ⟨w.heap.size,6,none⟩=some (.int .i64 R.day)/\wx.cell? ⟨w.heap.size,7,none⟩=some (.bool R.granted)/\wx.cell? ⟨w.heap.size,8,none⟩=some (.int .i64 R.user)/\wx.cell? ⟨w.heap.size,9,none⟩=some (.slice p1 n1 c1)/\wx.cell? ⟨w.heap.size,10,none⟩=some (.slice p2 n2 c2)/\wx.cell? ⟨w.heap.size,11,none⟩=some (.string R.does)/\wx.cell? ⟨w.heap.size,12,none⟩=some (.string R.at_)/\wx.cell? ⟨w.heap.size,13,none⟩=some (.bool R.deep)/\wx.rangeAt T 0 ds):=λwx g=>⟨RD.zz z1 g,RD.zz z2 g,RD.zz x0 g,RD.zz x1 g,RD.zz x2 g,RD.zz x3 g,RD.zz x4 g,RD.zz x5 g,RD.zz x6 g,RD.zz x7 g,RD.zz x8 g,RD.zz x9 g,RD.zz x10 g,RD.zz x11 g,RD.zz x12 g,RD.zz x13 g,KQ.kq RC.o g⟩
      have HK:=A KS;have LE:RowKit.Hid (∀wx,Grown wc wx->wc.heap.size<=wx.heap.size):=A (λwx g=>g.size);have GD:=A (zM wc);have GA0:RowKit.Hid (∀ob,Grown wc (wc.alloc ob).drew):=A (λob=>(zc wc ob).trans' (zM _));have hdl32:RowKit.Hid (ds.length=1*32):=A hdl;have FEW:RowKit.Hid (es.length<=100000):=A I;have ONE:=A (zdA AC.o.tr.lists);clear KS;have hfold:=zag hdl;go_wp2_with fail
      go_region_held3 (λwx=>wx.cell? ⟨b,o,none⟩=some (.slice p es.length c)/\wx.cell? ⟨b,o+1,none⟩=some (.slice (some ⟨hb,ho,none⟩) (es.length+1) hc)/\wx.cell? ⟨w.heap.size,0,none⟩=some (.int .i64 R.number)/\wx.cell? ⟨w.heap.size,1,none⟩=some (.int .i64 R.version)/\wx.cell? ⟨w.heap.size,2,none⟩=some (.string R.tenant)/\wx.cell? ⟨w.heap.size,3,none⟩=some (.int .i64 R.session)/\wx.cell? ⟨w.heap.size,4,none⟩=some (.string R.action)/\wx.cell? ⟨w.heap.size,5,none⟩=some (.string R.path)/\wx.cell? ⟨w.heap.size,6,none⟩=some (.int .i64 R.day)/\wx.cell? ⟨w.heap.size,7,none⟩=some (.bool R.granted)/\wx.cell? ⟨w.heap.size,8,none⟩=some (.int .i64 R.user)/\wx.cell? ⟨w.heap.size,9,none⟩=some (.slice p1 n1 c1)/\wx.cell? ⟨w.heap.size,10,none⟩=some (.slice p2 n2 c2)/\wx.cell? ⟨w.heap.size,11,none⟩=some (.string R.does)/\wx.cell? ⟨w.heap.size,12,none⟩=some (.string R.at_)/\wx.cell? ⟨w.heap.size,13,none⟩=some (.bool R.deep)/\wx.rangeAt T 0 ds)
       (first|exact⟨z1,z2,x0,x1,x2,x3,x4,x5,x6,x7,x8,x9,x10,x11,x12,x13,hrd⟩|exact HK.o _ GD.o|exact HK.o _ (GD.o.trans' (zc _ _))|exact HK.o _ GA0.o|exact HK.o _ (GA0.o.trans' (zc _ _))|exact HK.o _ G33.o|exact HK.o _ (G33.o.trans' (zc _ _))|exact HK.o _ G29.o|exact HK.o _ (G29.o.trans' (zc _ _))|exact HK.o _ GA.o|exact HK.o _ (GA.o.trans' (zc _ _))|exact HK.o _ G34.o|exact HK.o _ (G34.o.trans' (zc _ _))|exact HK.o _ GZ.o|exact HK.o _ (GZ.o.trans' (zc _ _))|exact HK.o _ ((G29.o.trans' (zc _ _)).trans' (zc _ _)))
       (first
        | (go_at_call 33;(with_reducible refine(Dk (AC.o.grown GD.o).rows FEW.o ONE.o AC.o.nz).mono ?_);rintro e w33 ⟨q33,c33,rfl,k1,k2⟩;have G33:=A (GD.o.trans' k1);have K33:=A (k2.lower (LE.o _ GD.o));clear k1 k2)
        | (go_at_call 33;(with_reducible refine(Dk (AC.o.grown (GA0.o (.cells ds.toArray 29))).rows FEW.o ONE.o AC.o.nz).mono ?_);rintro e w33 ⟨q33,c33,rfl,k1,k2⟩;have G33:=A ((GA0.o (.cells ds.toArray 29)).trans' k1);have K33:=A (k2.lower (LE.o _ (GA0.o (.cells ds.toArray 29))));have BX:=A (qi ((zM _).trans' k1) (aB wc ds));clear k1 k2)
        | (go_at_call 29;(with_reducible refine(xB BX HG.o (AC.o.grown G33.o).up (AC.o.grown G33.o).down).mono ?_);rintro e w29 ⟨r1,l1,d1,r2,l2,d2,rfl,k1,k2,k3⟩;have G29:=A (G33.o.trans' k1);have K29:=A ((K33.o).grown k1);have U29:=A k2;have D29:=A k3;have BY:=A (qi k1 BX.o);clear k1 k2 k3)
        | (go_at_call 29;(with_reducible refine(xB True.intro HG.o (AC.o.grown G33.o).up (AC.o.grown G33.o).down).mono ?_);rintro e w29 ⟨r1,l1,d1,r2,l2,d2,rfl,k1,k2,k3⟩;have G29:=A (G33.o.trans' k1);have K29:=A ((K33.o).grown k1);have U29:=A k2;have D29:=A k3;clear k1 k2 k3)
        | (go_at_call 29;(with_reducible refine(xB True.intro HG.o (AC.o.grown (G33.o.trans' (zc _ _))).up (AC.o.grown (G33.o.trans' (zc _ _))).down).mono ?_);rintro e w29 ⟨r1,l1,d1,r2,l2,d2,rfl,k1,k2,k3⟩;have G29:=A ((G33.o.trans' (zc _ _)).trans' k1);have K29:=A ((K33.o.grown (zc _ _)).grown k1);have U29:=A k2;have D29:=A k3;have BY:=A (qi k1 (aB w33 ds));clear k1 k2 k3)
        | (refine yu BY Fa (.tmp 100) (.tmp 103) (m:=1) (ad:=⟨w29.heap.size,0,none⟩) (us:=(#[.int .i64 R.number,.int .i64 R.version,.string R.tenant,.int .i64 R.session,.string R.action,.string R.path,.int .i64 R.day,.bool R.granted,.int .i64 R.user,.slice r1 l1 d1,.slice r2 l2 d2,.string R.does,.string R.at_,.bool R.deep]:Array Value).toList) rfl rfl (K29.o.grown (zc _ _)) (gj HF.o) C (LE.o _ (G29.o.trans' (zc _ _))) rfl (Vs w29) (dk R) rfl rfl ?_;intro qa ca wa k1 k2;have GA:=A (kI (G29.o.trans' (zc _ _)) (K29.o.grown (zc _ _)) k2);have KA:=A k1;have UA:=A (qR k2 (K29.o.grown (zc _ _)) ((qh.zH (zc _ _)).atS U29.o) C);have DA:=A (qR k2 (K29.o.grown (zc _ _)) ((qh.zH (zc _ _)).atS D29.o) C);have BZ:=A (Xb k2 (K29.o.grown (zc _ _)) (qi (zc _ _) BY.o) C);clear k1 k2)
        | (refine yu True.intro Fa (.tmp 100) (.tmp 103) (m:=1) (ad:=⟨w29.heap.size,0,none⟩) (us:=(#[.int .i64 R.number,.int .i64 R.version,.string R.tenant,.int .i64 R.session,.string R.action,.string R.path,.int .i64 R.day,.bool R.granted,.int .i64 R.user,.slice r1 l1 d1,.slice r2 l2 d2,.string R.does,.string R.at_,.bool R.deep]:Array Value).toList) rfl rfl (K29.o.grown (zc _ _)) (gj HF.o) C (LE.o _ (G29.o.trans' (zc _ _))) rfl (Vs w29) (dk R) rfl rfl ?_;intro qa ca wa k1 k2;have GA:=A (kI (G29.o.trans' (zc _ _)) (K29.o.grown (zc _ _)) k2);have KA:=A k1;have UA:=A (qR k2 (K29.o.grown (zc _ _)) ((qh.zH (zc _ _)).atS U29.o) C);have DA:=A (qR k2 (K29.o.grown (zc _ _)) ((qh.zH (zc _ _)).atS D29.o) C);clear k1 k2)
        | (refine yu True.intro Fa (.tmp 100) (.tmp 103) (m:=1) (ad:=⟨w29.heap.size+1,0,none⟩) (us:=(#[.int .i64 R.number,.int .i64 R.version,.string R.tenant,.int .i64 R.session,.string R.action,.string R.path,.int .i64 R.day,.bool R.granted,.int .i64 R.user,.slice r1 l1 d1,.slice r2 l2 d2,.string R.does,.string R.at_,.bool R.deep]:Array Value).toList) rfl rfl (K29.o.grown ((zc _ _).trans' (zc _ _))) (gj HF.o) C (LE.o _ (G29.o.trans' ((zc _ _).trans' (zc _ _)))) rfl (uC w29 _) (dk R) rfl rfl ?_;intro qa ca wa k1 k2;have GA:=A (kI (G29.o.trans' ((zc _ _).trans' (zc _ _))) (K29.o.grown ((zc _ _).trans' (zc _ _))) k2);have KA:=A k1;have UA:=A (qR k2 (K29.o.grown ((zc _ _).trans' (zc _ _))) ((qh.zH ((zc _ _).trans' (zc _ _))).atS U29.o) C);have DA:=A (qR k2 (K29.o.grown ((zc _ _).trans' (zc _ _))) ((qh.zH ((zc _ _).trans' (zc _ _))).atS D29.o) C);have BZ:=A (Xb k2 (K29.o.grown ((zc _ _).trans' (zc _ _))) (qi (zc _ _) (aB w29 ds)) C);clear k1 k2)
        | (refine yu True.intro Fa (.tmp 100) (.tmp 103) (m:=1) (ad:=⟨w29.heap.size,0,none⟩) (us:=(#[.int .i64 R.number,.int .i64 R.version,.string R.tenant,.int .i64 R.session,.string R.action,.string R.path,.int .i64 R.day,.bool R.granted,.int .i64 R.user,.slice r1 l1 d1,.slice r2 l2 d2,.string R.does,.string R.at_,.bool R.deep]:Array Value).toList) rfl rfl (K29.o.grown ((zc _ _).trans' (zc _ _))) (gj HF.o) C (LE.o _ (G29.o.trans' ((zc _ _).trans' (zc _ _)))) rfl (uD (zc _ _)) (dk R) rfl rfl ?_;intro qa ca wa k1 k2;have GA:=A (kI (G29.o.trans' ((zc _ _).trans' (zc _ _))) (K29.o.grown ((zc _ _).trans' (zc _ _))) k2);have KA:=A k1;have UA:=A (qR k2 (K29.o.grown ((zc _ _).trans' (zc _ _))) ((qh.zH ((zc _ _).trans' (zc _ _))).atS U29.o) C);have DA:=A (qR k2 (K29.o.grown ((zc _ _).trans' (zc _ _))) ((qh.zH ((zc _ _).trans' (zc _ _))).atS D29.o) C);have BZ:=A (Xb k2 (K29.o.grown ((zc _ _).trans' (zc _ _))) (SG w29 _ ds) C);clear k1 k2)
        | (go_at_call 34;(with_reducible refine(oX BZ (succ_pos es.length) (oI es.length D) (AC.o.grown GA.o).heads (gj HF.o) (MF es.length D)).mono ?_);rintro e w34 ⟨q34,c34,rfl,k1,k2⟩;have G34:=A (GA.o.trans' k1);have K34:=A (KA.o.grown k1);have U34:=A ((qh.zH k1).atS UA.o);have D34:=A ((qh.zH k1).atS DA.o);have H34:=A (k2.lower (LE.o _ GA.o));have BW:=A (qi k1 BZ.o);clear k1 k2)
        | (go_at_call 34;(with_reducible refine(oX True.intro (succ_pos es.length) (oI es.length D) (AC.o.grown GA.o).heads (gj HF.o) (MF es.length D)).mono ?_);rintro e w34 ⟨q34,c34,rfl,k1,k2⟩;have G34:=A (GA.o.trans' k1);have K34:=A (KA.o.grown k1);have U34:=A ((qh.zH k1).atS UA.o);have D34:=A ((qh.zH k1).atS DA.o);have H34:=A (k2.lower (LE.o _ GA.o));clear k1 k2)
        | (go_at_call 34;(with_reducible refine(oX True.intro (succ_pos es.length) (oI es.length D) (AC.o.grown (GA.o.trans' (zc _ _))).heads (gj HF.o) (MF es.length D)).mono ?_);rintro e w34 ⟨q34,c34,rfl,k1,k2⟩;have G34:=A (GA.o.trans' ((zc _ _).trans' k1));have K34:=A (KA.o.grown ((zc _ _).trans' k1));have U34:=A ((qh.zH ((zc _ _).trans' k1)).atS UA.o);have D34:=A ((qh.zH ((zc _ _).trans' k1)).atS DA.o);have H34:=A (k2.lower (LE.o _ (GA.o.trans' (zc _ _))));have BW:=A (qi k1 (aB wa ds));clear k1 k2)
        | (refine yu BW ry (.tmp 109) (.tmp 111) (m:=1) (ad:=⟨wc.heap.size,0,none⟩) (us:=ds) rfl rfl H34.o (mI HF.o) C (LE.o _ G34.o) hdl32.o (Jo BW.o) (aM DS.o) rfl rfl ?_;intro qz cz wz k1 k2;have GZ:=A (kI G34.o H34.o k2);have HZ:=A k1;have KZ:=A (YG k2 H34.o K34.o C);have UZ:=A (qR k2 H34.o U34.o C);have DZ:=A (qR k2 H34.o D34.o C);clear k1 k2)
        | (refine yu BW ry (.tmp 109) (.tmp 111) (m:=1) (ad:=⟨w33.heap.size,0,none⟩) (us:=ds) rfl rfl H34.o (mI HF.o) C (LE.o _ G34.o) hdl32.o (Jo BW.o) (aM DS.o) rfl rfl ?_;intro qz cz wz k1 k2;have GZ:=A (kI G34.o H34.o k2);have HZ:=A k1;have KZ:=A (YG k2 H34.o K34.o C);have UZ:=A (qR k2 H34.o U34.o C);have DZ:=A (qR k2 H34.o D34.o C);clear k1 k2)
        | (refine yu BW ry (.tmp 109) (.tmp 111) (m:=1) (ad:=⟨w29.heap.size,0,none⟩) (us:=ds) rfl rfl H34.o (mI HF.o) C (LE.o _ G34.o) hdl32.o (Jo BW.o) (aM DS.o) rfl rfl ?_;intro qz cz wz k1 k2;have GZ:=A (kI G34.o H34.o k2);have HZ:=A k1;have KZ:=A (YG k2 H34.o K34.o C);have UZ:=A (qR k2 H34.o U34.o C);have DZ:=A (qR k2 H34.o D34.o C);clear k1 k2)
        | (refine yu BW ry (.tmp 109) (.tmp 111) (m:=1) (ad:=⟨w29.heap.size+1,0,none⟩) (us:=ds) rfl rfl H34.o (mI HF.o) C (LE.o _ G34.o) hdl32.o (Jo BW.o) (aM DS.o) rfl rfl ?_;intro qz cz wz k1 k2;have GZ:=A (kI G34.o H34.o k2);have HZ:=A k1;have KZ:=A (YG k2 H34.o K34.o C);have UZ:=A (qR k2 H34.o U34.o C);have DZ:=A (qR k2 H34.o D34.o C);clear k1 k2)
        | (refine yu BW ry (.tmp 109) (.tmp 111) (m:=1) (ad:=⟨wa.heap.size,0,none⟩) (us:=ds) rfl rfl H34.o (mI HF.o) C (LE.o _ G34.o) hdl32.o (Jo BW.o) (aM DS.o) rfl rfl ?_;intro qz cz wz k1 k2;have GZ:=A (kI G34.o H34.o k2);have HZ:=A k1;have KZ:=A (YG k2 H34.o K34.o C);have UZ:=A (qR k2 H34.o U34.o C);have DZ:=A (qR k2 H34.o D34.o C);clear k1 k2)
        | (refine yu True.intro ry (.tmp 109) (.tmp 111) (m:=1) (ad:=⟨w34.heap.size,0,none⟩) (us:=ds) rfl rfl (H34.o.grown (zc _ _)) (mI HF.o) C (LE.o _ (G34.o.trans' (zc _ _))) hdl32.o (PN w34 ds) (aM DS.o) rfl rfl ?_;intro qz cz wz k1 k2;have GZ:=A (kI (G34.o.trans' (zc _ _)) (H34.o.grown (zc _ _)) k2);have HZ:=A k1;have KZ:=A (YG k2 (H34.o.grown (zc _ _)) (K34.o.grown (zc _ _)) C);have UZ:=A (qR k2 (H34.o.grown (zc _ _)) ((qh.zH (zc _ _)).atS U34.o) C);have DZ:=A (qR k2 (H34.o.grown (zc _ _)) ((qh.zH (zc _ _)).atS D34.o) C);clear k1 k2))
      all_goals(go_wp2_with fail;go_ret2;exact zbF AC.o HLO.o GZ.o KZ.o HZ.o UZ.o DZ.o F.o DS.o)
    | succ k=>
     have hjm:(j:Int)<(es.length:Int):=by omega
     obtain⟨rb,ro,S,q1,q2,m1,m2,d1,d2,rfl,hrec⟩:=SQ A3.o.rows rfl (RD.qP _) A3.o.tr.lists (j:=j) I;obtain⟨y0,y1,y2,y3,y4,y5,y6,y7,y8,y9,y10,y11,y12,y13⟩:=hrec;have ga:=(zc wr (.cells #[.int .i64 S.number,.int .i64 S.version,.string S.tenant,.int .i64 S.session,.string S.action,.string S.path,.int .i64 S.day,.bool S.granted,.int .i64 S.user,.slice q1 m1 d1,.slice q2 m2 d2,.string S.does,.string S.at_,.bool S.deep] 42))
     have x1:=RD.zz A3.o.box.2.1 ga;have x2:=RD.zz A3.o.box.2.2.1 ga;have x6:=RD.zz A3.o.box.2.2.2.2.2.2.1 ga;have GA:=A ga;clear ga;have hw64:RowKit.wrap64 ((j:Int)+1)=(j:Int)+1:=by unfold RowKit.wrap64;have:=HF.o;omega
     have HW:=A hw64;clear hw64
     cases hte:(S.tenant.toList==R.tenant.toList) with
     | false=>
      go_wp2
      go_roundg k
      case measure=>omega
      case rel=>exact⟨j+1,I,(by first|rfl|(rw[HW.o];rfl)),GR.o.trans' GA.o⟩
     | true=>
      cases hgt:decide (R.version<S.version) with
      | true=>
       go_wp2
       go_ret2
       exact hJ C (A3.o.g.trans' GA.o)
      | false=>
       cases hve:(S.version==R.version) with
       | false=>
        go_wp2
        go_roundg k
        case measure=>omega
        case rel=>exact⟨j+1,I,(by first|rfl|(rw[HW.o];rfl)),GR.o.trans' GA.o⟩
       | true=>
        cases hda:(S.day != R.day) with
        | true=>
         go_wp2
         go_ret2
         exact hJ C (A3.o.g.trans' GA.o)
        | false=>
         go_wp2
         go_roundg k
         case measure=>omega
         case rel=>exact⟨j+1,I,(by first|rfl|(rw[HW.o];rfl)),GR.o.trans' GA.o⟩
  .go_ret2
   exact hJ (by simpa using her) A2.o.g
def zbG(e:kG w)(hm:QG w)(h:qY lo w (.pointer (some a)) es D)(b:lo<=w.heap.size)(d:JZ R)(h1:AtS w (.slice p1 n1 c1) R.up)(h2:AtS w (.slice p2 n2 c2) R.down):Calls prog 12 #[.pointer (some a),Zy R p1 p2 n1 n2 c1 c2] w (H9 lo w es R):=by
 by_cases c:es.length<4000
 .by_cases hn:R.number=(es.length:Int)+1
  .exact Rm e hm h c b d hn h1 h2
  .exact zbE h c hn
 .exact Rn h I
end
end GT
end
end Go.AEv
