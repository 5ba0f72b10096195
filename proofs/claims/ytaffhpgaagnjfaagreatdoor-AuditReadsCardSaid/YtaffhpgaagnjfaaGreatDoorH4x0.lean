/- Trails: H4x0. Conditions: each theorem's. -/
import Derived.Test.YtaffhpgaagnjfaaGreatDoorL4a
set_option linter.all false
open List Go.World Go.Proofs.Tryz
open Go.Proofs
set_option maxHeartbeats 40000000
set_option maxRecDepth 100000
namespace Go.AEv
variable{b g h r:Nat}{p:Ed}{vs:Ec}{w w2:Ea}
open Go
open Go.AuditPlain(hi qs zm zT numbers zig)
open KP(W qv)
open RD(qe oE Yu)
open KT(zB)
noncomputable section
open TR
open Go.AuditPlain(put)
namespace RD
def t14(_:zy):List Nat:=[]
def t13(R:zy):List Nat:=zT R.deep++t14 R
def t12(R:zy):List Nat:=zm (zG R.at_)++t13 R
def t11(R:zy):List Nat:=zm (zG R.does)++t12 R
def t10(R:zy):List Nat:=numbers (zI R.down)++t11 R
def t9(R:zy):List Nat:=numbers (zI R.up)++t10 R
def t8(R:zy):List Nat:=put R.user.toNat++t9 R
def t7(R:zy):List Nat:=zT R.granted++t8 R
def t6(R:zy):List Nat:=put R.day.toNat++t7 R
def t5(R:zy):List Nat:=zm (zG R.path)++t6 R
def t4(R:zy):List Nat:=zm (zG R.action)++t5 R
def t3(R:zy):List Nat:=qs R.session++t4 R
def t2(R:zy):List Nat:=zm (zG R.tenant)++t3 R
def t1(R:zy):List Nat:=put R.version.toNat++t2 R
def t0(R:zy):List Nat:=put R.number.toNat++t1 R
def BH(R:zy):R.qC.bytes=t0 R:=by
 unfold t0 t1 t2 t3 t4 t5 t6 t7 t8 t9 t10 t11 t12 t13 t14;rw[AJ];rfl
section
variable{w0 w:Ea}{b g x r:Nat}{L L' l:Eb}{vs:Ec}{Z:List (Value×List Nat)}
def oc(h:Dec w0 w b g x r L vs Z 0)(m:Nat){k v:Int}(c:(m:Int)=k)(hb:m<=9000000000000000000)(hv:0<=v)(a:uintR m L=some (v.toNat,L')):Calls prog 91 #[.pointer (some ⟨b,0,none⟩),.int .i64 k] w (Hz w0 b g x r L' vs Z (.int .i64 v)):=by
 subst c;have:=zdD h hb a;rwa[Int.toNat_of_nonneg hv]at this
def rL(h:Dec w0 w b g x r L vs Z 0){m:Nat}{s:Ee}(hb:m<=1000000)(a:jF m L=some (zG s,L')):Calls prog 92 #[.pointer (some ⟨b,0,none⟩),.int .i64 (m:Nat)] w (Hz w0 b g x r L' vs Z (.string s)):=by
 have:=zfh h hb a;rw[@Qs unk0]at this;exact this
def RoP(w0:Ea)(b g x r:Nat)(L:Eb)(vs:Ec)(Z:List (Value×List Nat))(l:Eb)(e:Ew)(w2:Ea):Prop:=∃p n c,e = .returned (.slice p n c)/\Dec w0 w2 b g x r L vs ((.slice p n c,l)::Z) 0
def Cd(h:Dec w0 w b g x r (numbers l++L') vs Z 0)(i:g<w.heap.size)(hl:l.length<=63)(c:∀n∈l,n<=63):Calls prog 95 #[.pointer (some ⟨b,0,none⟩)] w (RoP w0 b g x r L' vs Z l):=by
 refine(vL h.at_ i hl c).mono λe w2 k=>?_;obtain⟨v,rfl,a,k2,k3⟩:=k
 have hd:∀v,ki w.heap.size w2 v l->Dec w0 w2 b g x r L' vs ((v,l)::Z) 0:=λv hv=>by
  obtain⟨zs,_,f⟩:=h.res;have d:=h.only k3 k2;refine { d with li:=λq hq=>?_ };rcases Lf.1 hq with rfl|hq
  .exact⟨w.heap.size,block_lt_of_cell? w _ h.at_.err,zx.lt h.row,zx.lt f,hv⟩
  .exact d.li q hq
 by_cases hn:l=[]
 .obtain rfl:=a.1 hn;exact⟨none,0,0,rfl,hd _ a⟩
 .obtain⟨y,rfl,_⟩:=a.2 hn;exact⟨_,_,_,rfl,hd _ a⟩
end
def rW{R:zy}(h:EN.Good R):R.tenant.size<=16:=by have:=Ur h.name.1;omega
def rY{R:zy}(h:EN.Good R):R.action.size<=16:=by have:=Ur h.name.2.2.1;omega
def Fo{R:zy}(h:EN.Good R):R.path.size<=16:=by have:=sE h.name.2.2.2.1;omega
def Fp{R:zy}(h:EN.Good R):R.does.size<=16:=by have:=h.ok.does.JB;omega
def IM{R:zy}(h:EN.Good R):R.at_.size<=16:=by have:=h.ok.at_.JB;omega
def NA{o:En}:(zI o).length=qj o:=rfl
def nQ(n:Nat)(L:Eb):put n++L≠[]:=by
 have:=EN.Uh n;intro h;rw[AW]at h;rw[h.1]at this;exact Ld this C
def fk(l L:Eb):numbers l++L≠[]:=by
 unfold numbers;rw[Ae];exact nQ _ _
def N.glt{L:Eb}{e:Int}(h:N w b g L e)(hn:L≠[]):g<w.heap.size:=by
 obtain⟨p,c,h1,h2,h3,a⟩:=h.left;obtain⟨b',o,rfl,hc⟩:=h3.2 hn;have:=a _ rfl
 cases L with
 | nil=>exact Ld rfl hn
 | cons y L=>
  have hb:=block_lt_of_cell? w _ (hc 0 y rfl);show g<_;rw[<- this];exact hb
def glt{w0:Ea}{x:Nat}{L:Eb}{Z:List (Value×List Nat)}{z:Int}(h:Dec w0 w b g x r L vs Z z)(hn:L≠[]):g<w.heap.size:=h.at_.glt hn
def cm{c N:Nat}{L:Eb}(a:RowKit.Hid (In w p L))(hN:RowKit.Hid (L.length=N))(hlen:N<=100000){z:Obj}:Calls prog 40 #[.slice p N c] (w.alloc z) (Hw (w.alloc z) L):=by
 have hN:=hN.o;subst hN;exact V9 (ym a.o (zc w z)) hlen
def qQ{w0:Ea}{x:Nat}{L:Eb}{Z:List (Value×List Nat)}{z:Int}(h:Dec w0 w b g x r L vs Z z){k:Nat}(e:k<14):∃v,w.cell? ⟨r,k,none⟩=some v/\w.frozen? ⟨r,k,none⟩=false:=by
 obtain⟨zs,d,c⟩:=h.res;have a:k<zs.length:=by omega
 refine⟨zs[k],?_⟩;have hc:=TR.cell_of_row c (Ly a);rw[Lz]at hc;refine⟨hc,?_⟩;obtain⟨arr,fz,h1,h2,h3,_⟩:=c;have h2:0+zs.length+0*qS prog 42<=arr.size:=h2;unfold World.frozen?;rw[show w.heap[r]?=_ from h1];have:=h3 k I;show(decide (fz.1<=k)&&decide (k<fz.2))=false;rw[AG,LH,LH];omega
def zeroV:List Value:=[.int .i64 0,.int .i64 0,.string ⟨#[]⟩,.int .i64 0,.string ⟨#[]⟩,.string ⟨#[]⟩,.int .i64 0,.bool false,.int .i64 0,.slice none 0 0,.slice none 0 0,.string ⟨#[]⟩,.string ⟨#[]⟩,.bool false]
def lI(w:Ea){t:Eg}{a:Eh}(ha:a.toList=vs):zx prog (w.alloc (.cells a t)) (w.heap.size,0,0) t vs:=by
 subst ha;refine⟨a,(0,0),heap_alloc_new w _,?_,λi _=>I,⟨0,rfl⟩,λj _=>?_⟩
 .show 0+a.toList.length+0*_<=_;rw[Array.length_toList];omega
 .rw[Lz,LV]
def oV{L:Eb}(hb:(w.alloc (.cells #[.int .i64 0,.int .i64 0,.string ⟨#[]⟩,.int .i64 0,.string ⟨#[]⟩,.string ⟨#[]⟩,.int .i64 0,.bool false,.int .i64 0,.slice none 0 0,.slice none 0 0,.string ⟨#[]⟩,.string ⟨#[]⟩,.bool false] 42)).heap.size<=b)(f:(w.alloc (.cells #[.int .i64 0,.int .i64 0,.string ⟨#[]⟩,.int .i64 0,.string ⟨#[]⟩,.string ⟨#[]⟩,.int .i64 0,.bool false,.int .i64 0,.slice none 0 0,.slice none 0 0,.string ⟨#[]⟩,.string ⟨#[]⟩,.bool false] 42)).heap.size<=g)(hn:g≠w2.heap.size)(ha:N w2 b g L 0)(d:Grown (w.alloc (.cells #[.int .i64 0,.int .i64 0,.string ⟨#[]⟩,.int .i64 0,.string ⟨#[]⟩,.string ⟨#[]⟩,.int .i64 0,.bool false,.int .i64 0,.slice none 0 0,.slice none 0 0,.string ⟨#[]⟩,.string ⟨#[]⟩,.bool false] 42)) w2):Dec w (w2.alloc (.cells #[.int .i64 0,.int .i64 0,.string ⟨#[]⟩,.int .i64 0,.string ⟨#[]⟩,.string ⟨#[]⟩,.int .i64 0,.bool false,.int .i64 0,.slice none 0 0,.slice none 0 0,.string ⟨#[]⟩,.string ⟨#[]⟩,.bool false] 42)) b g w2.heap.size w.heap.size L zeroV [] 0:=by
 have hs:(w.alloc (.cells #[.int .i64 0,.int .i64 0,.string ⟨#[]⟩,.int .i64 0,.string ⟨#[]⟩,.string ⟨#[]⟩,.int .i64 0,.bool false,.int .i64 0,.slice none 0 0,.slice none 0 0,.string ⟨#[]⟩,.string ⟨#[]⟩,.bool false] 42)).heap.size=w.heap.size+1:=by unfold World.alloc;simp
 have g1:=d.trans' (zc w2 (.cells #[.int .i64 0,.int .i64 0,.string ⟨#[]⟩,.int .i64 0,.string ⟨#[]⟩,.string ⟨#[]⟩,.int .i64 0,.bool false,.int .i64 0,.slice none 0 0,.slice none 0 0,.string ⟨#[]⟩,.string ⟨#[]⟩,.bool false] 42));have c:=block_lt_of_cell? w2 _ ha.err;have a:=d.size;rw[hs]at hb f a;exact⟨ha.grown (zc w2 _),lI w2 rfl,⟨zeroV,rfl,qi g1 (lI w rfl)⟩,(zc w _).trans' g1,Nat.ne_of_gt c,I,λe=>hn e.symm,I,I,Lh _,I,λq hq=>by cases hq⟩
def lY(b:Nat):∀(vs:Ec) (o:Nat) (w:Ea),jy b w (w.setCells b o vs)
 | [],_,w=>jy.refl b w
 | v::vs,o,w=>(yk b o v w).trans (lY b vs (o+1) (w.setCell ⟨b,o,none⟩ v))
def gC{W:Ea}{x:Nat}{L:Eb}{Z:List (Value×List Nat)}{z:Int}(h:Dec w W b g x r L vs Z z)(V:Ec)(k:V.length=14):Grown w (W.setCells r 0 V).drew/\(W.setCells r 0 V).drew.rangeAt r 0 V/\∀q∈Z,∃B,ki B (W.setCells r 0 V).drew q.1 q.2:=by
 have o:=(lY r V 0 W).trans (jy.zH (zM _));refine⟨⟨λc hc=>by rw[o.old c (LK hc h.gr.size) (by have:=h.r0;omega),h.gr.old c hc],Lj h.gr.size o.size,o.tape.trans h.gr.tape,o.os.trans h.gr.os,o.output.trans h.gr.output⟩,?_,λq hq=>?_⟩
 .obtain⟨zs,i,⟨arr,fz,h1,h2,_⟩⟩:=h.res;have h2:0+zs.length+0*qS prog 42<=arr.size:=h2;obtain⟨d,g1,m,f,_⟩:=jl r V 0 W arr 42 fz h1 I;intro j v a;have hl:=(LL.1 a).1;have:=f j hl;unfold World.cell?;rw[show(W.setCells r 0 V).drew.heap[r]?=_ from g1];exact this.trans a
 .obtain⟨B,h1,h2,h3,e⟩:=h.li q hq;exact⟨B,YU e h3 o⟩
def nI{tmps:Eh}{W:Ea}{V:Ec}{v:Ei}(hp:tmps.getD 2 undef = .pointer (some ⟨r,0,none⟩))(h3:tmps.getD 3 undef=v)(e:W.rangeAt r 0 V)(f:V.length=14):(results f42 tmps).run prog W = .ok (.tuple #[.agg V.toArray,v]) W:=by
 have c:(Tryz.prog.underlying 42).map (·.isRow)=some true:=U;have k2:(Tryz.prog.info? 42).map (·.size)=some 14:=U;obtain⟨d,hd,a⟩:=LU.1 c;have hl:=run_loadVar_mid (P:=prog) W r 0 42 V d e hd a (by rw[f];exact k2);rw[results_cell_tmp (fn:=f42) (p:=2) (u:=3) (ty:=42) rfl,hp,h3];simp[asAddr,Result.andThen,hl]
def nrm(o:En):Option ByteArray:=if zI o=[] then none else o
def Wj(o:En):zI (nrm o)=zI o:=by
 unfold nrm;split
 .rename_i h;rw[h];rfl
 .rfl
def fN{B:Nat}{v:Ei}{o:En}(h:ki B w v (zI o)):AtS w v (nrm o):=by
 unfold nrm;split
 .rename_i hn;exact h.1 hn
 .rename_i hn
  cases o with
  | none=>exact Ld rfl hn
  | some s=>
   obtain⟨x,rfl,⟨arr,fz,h1,h2,h3,_,c⟩,_⟩:=h.2 hn;have hl:(zI (some s)).length=s.size:=zR s;have a:qS prog 3=1:=U;rw[kQ,hl,a]at h2;refine⟨(x.1,x.2.1,s.size+x.2.2),arr,fz,by rw[hl],h1,Al _ _,(show x.2.1+(s.size+x.2.2)<=arr.size by omega),λi b hb=>?_,h3⟩;have hi:i<s.size:=(LO.1 hb).1;rw[show arr[x.2.1+i]?=_ from c i (by rw[kQ,hl];exact hi)];unfold VK;rw[Lw,show(zI (some s))[i]?=some b.toNat from ?_]
   .rfl
   .show(zG s)[i]?=_;unfold zG;rw[jI,Lw,LV,hb];rfl
def RZ(w:Ea)(R:zy)(e:Ew)(w2:Ea):Prop:=∃p1 n1 c1 p2 n2 c2,e = .returned (.tuple #[Zy R p1 p2 n1 n2 c1 c2,.bool true])/\Grown w w2/\AtS w2 (.slice p1 n1 c1) (nrm R.up)/\AtS w2 (.slice p2 n2 c2) (nrm R.down)
def PV{c N:Nat}{R:zy}(hi:In w p R.qC.bytes)(hN:R.qC.bytes.length=N)(hg:EN.Good R)(hdy:R.day<=30000):Calls prog 42 #[.slice p N c] w (RZ w R):=by
 have hok:=hg.ok;have hver:=hg.ver;have hc:=hg.chain;have hbl:=bu hok hg hdy;rw[hN]at hbl;have r0:=A (show uintR 4000 (t0 R)=some (R.number.toNat,t1 R) from uint_put (by have:=hok.number;omega) C _);have V0:RowKit.Hid (0<=R.number):=A (by have:=hok.number;omega);have r1:=A (show uintR 2147483647 (t1 R)=some (R.version.toNat,t2 R) from uint_put (by have:=hok.version;omega) C _);have V1:RowKit.Hid (0<=R.version):=A (by have:=hok.version;have:=hver;omega);have r2:=A (show jF N (t2 R)=some (zG R.tenant,t3 R) from QE (by rw[zR];have:=rW hg;omega) I _);have r3:=A (show bc (t3 R)=some (R.session,t4 R) from TH (by have:=hok.session;omega) _);have r4:=A (show jF N (t4 R)=some (zG R.action,t5 R) from QE (by rw[zR];have:=rY hg;omega) I _);have r5:=A (show jF N (t5 R)=some (zG R.path,t6 R) from QE (by rw[zR];have:=Fo hg;omega) I _);have r6:=A (show uintR 30000 (t6 R)=some (R.day.toNat,t7 R) from uint_put (by have:=hok.day;have:=hdy;omega) C _);have V6:RowKit.Hid (0<=R.day):=A (by have:=hok.day;omega);have r7:=A (show cJ (t7 R)=some (R.granted,t8 R) from ua _ _);have r8:=A (show uintR 256 (t8 R)=some (R.user.toNat,t9 R) from uint_put (by have:=hok.user;omega) C _);have V8:RowKit.Hid (0<=R.user):=A (by have:=hok.user;omega);have r9:RowKit.Hid ((zI R.up).length<=63):=A (by have:=hc.2.1;have h5:=NA (o:=R.up);omega);have s9:RowKit.Hid (∀n∈zI R.up,n<=63):=A λn hn=>hc.2.2.2.2.1 n (List.mem_append_left _ hn);have r10:RowKit.Hid ((zI R.down).length<=63):=A (by have:=hc.2.2.1;have h5:=NA (o:=R.down);omega);have s10:RowKit.Hid (∀n∈zI R.down,n<=63):=A λn hn=>hc.2.2.2.2.1 n (Ay _ hn);have r11:=A (show jF N (t11 R)=some (zG R.does,t12 R) from QE (by rw[zR];have:=Fp hg;omega) I _);have r12:=A (show jF N (t12 R)=some (zG R.at_,t13 R) from QE (by rw[zR];have:=IM hg;omega) I _);have r13:=A (show cJ (t13 R)=some (R.deep,t14 R) from ua _ _);have NB:RowKit.Hid (N<=1000000):=A I;have NBB:RowKit.Hid (N<=100000):=A I;have HI:=A (show In w p (t0 R) by rw[<- BH];exact hi);have HN:RowKit.Hid ((t0 R).length=N):=A (by rw[<- BH];exact hN);clear hi hN hg hdy hok hver hc hbl;go_enter func42,ntmps42
 go_wp2_with(first
  | (go_at_call 40;(with_reducible refine(cm HI HN NBB.o).mono ?_);rintro e w0 ⟨b,g,rfl,kb,kg,kn,ka,kr,_⟩;have D0:=A (oV (L:=t0 R) kb kg kn ka kr);clear kb kg kn ka kr)
  | (go_at_call 91;(with_reducible refine(oc (k:=4000) D0.o 4000 rfl C V0.o r0.o).mono ?_);rintro e w1 ⟨rfl,kd⟩;have D1:=A kd;have E1:=A (kd.set 0 (.int .i64 R.number) (by first|decide|(simp only[LF];decide)));obtain⟨x1,y1⟩:=zL kd (k:=0) rfl;clear kd)
  | (go_at_call 91;(with_reducible refine(oc (k:=2147483647) E1.o 2147483647 rfl C V1.o r1.o).mono ?_);rintro e w2 ⟨rfl,kd⟩;have D2:=A kd;have E2:=A (kd.set 1 (.int .i64 R.version) (by first|decide|(simp only[LF];decide)));obtain⟨x2,y2⟩:=zL kd (k:=1) rfl;clear kd)
  | (go_at_call 92;(with_reducible refine(rL E2.o NB.o r2.o).mono ?_);rintro e w3 ⟨rfl,kd⟩;have D3:=A kd;have E3:=A (kd.set 2 (.string R.tenant) (by first|decide|(simp only[LF];decide)));obtain⟨x3,y3⟩:=zL kd (k:=2) rfl;clear kd)
  | (go_at_call 93;(with_reducible refine(zgx E3.o r3.o).mono ?_);rintro e w4 ⟨rfl,kd⟩;have D4:=A kd;have E4:=A (kd.set 3 (.int .i64 R.session) (by first|decide|(simp only[LF];decide)));obtain⟨x4,y4⟩:=zL kd (k:=3) rfl;clear kd)
  | (go_at_call 92;(with_reducible refine(rL E4.o NB.o r4.o).mono ?_);rintro e w5 ⟨rfl,kd⟩;have D5:=A kd;have E5:=A (kd.set 4 (.string R.action) (by first|decide|(simp only[LF];decide)));obtain⟨x5,y5⟩:=zL kd (k:=4) rfl;clear kd)
  | (go_at_call 92;(with_reducible refine(rL E5.o NB.o r5.o).mono ?_);rintro e w6 ⟨rfl,kd⟩;have D6:=A kd;have E6:=A (kd.set 5 (.string R.path) (by first|decide|(simp only[LF];decide)));obtain⟨x6,y6⟩:=zL kd (k:=5) rfl;clear kd)
  | (go_at_call 91;(with_reducible refine(oc (k:=30000) E6.o 30000 rfl C V6.o r6.o).mono ?_);rintro e w7 ⟨rfl,kd⟩;have D7:=A kd;have E7:=A (kd.set 6 (.int .i64 R.day) (by first|decide|(simp only[LF];decide)));obtain⟨x7,y7⟩:=zL kd (k:=6) rfl;clear kd)
  | (go_at_call 94;(with_reducible refine(Pv E7.o r7.o).mono ?_);rintro e w8 ⟨rfl,kd⟩;have D8:=A kd;have E8:=A (kd.set 7 (.bool R.granted) (by first|decide|(simp only[LF];decide)));obtain⟨x8,y8⟩:=zL kd (k:=7) rfl;clear kd)
  | (go_at_call 91;(with_reducible refine(oc (k:=256) E8.o 256 rfl C V8.o r8.o).mono ?_);rintro e w9 ⟨rfl,kd⟩;have D9:=A kd;have E9:=A (kd.set 8 (.int .i64 R.user) (by first|decide|(simp only[LF];decide)));obtain⟨x9,y9⟩:=zL kd (k:=8) rfl;clear kd)
  | (go_at_call 95;(with_reducible refine(Cd (L':=t10 R) E9.o (glt E9.o (fk _ _)) r9.o s9.o).mono ?_);rintro e w10 ⟨p1,n1,c1,rfl,kd⟩;have D10:=A kd;have E10:=A (kd.set 9 (.slice p1 n1 c1) (by first|decide|(simp only[LF];decide)));obtain⟨x10,y10⟩:=zL kd (k:=9) rfl;clear kd)
  | (go_at_call 95;(with_reducible refine(Cd (L':=t11 R) E10.o (glt E10.o (fk _ _)) r10.o s10.o).mono ?_);rintro e w11 ⟨p2,n2,c2,rfl,kd⟩;have D11:=A kd;have E11:=A (kd.set 10 (.slice p2 n2 c2) (by first|decide|(simp only[LF];decide)));obtain⟨x11,y11⟩:=zL kd (k:=10) rfl;clear kd)
  | (go_at_call 92;(with_reducible refine(rL E11.o NB.o r11.o).mono ?_);rintro e w12 ⟨rfl,kd⟩;have D12:=A kd;have E12:=A (kd.set 11 (.string R.does) (by first|decide|(simp only[LF];decide)));obtain⟨x12,y12⟩:=zL kd (k:=11) rfl;clear kd)
  | (go_at_call 92;(with_reducible refine(rL E12.o NB.o r12.o).mono ?_);rintro e w13 ⟨rfl,kd⟩;have D13:=A kd;have E13:=A (kd.set 12 (.string R.at_) (by first|decide|(simp only[LF];decide)));obtain⟨x13,y13⟩:=zL kd (k:=12) rfl;clear kd)
  | (go_at_call 94;(with_reducible refine(Pv E13.o r13.o).mono ?_);rintro e w14 ⟨rfl,kd⟩;have D14:=A kd;have E14:=A (kd.set 13 (.bool R.deep) (by first|decide|(simp only[LF];decide)));obtain⟨x14,y14⟩:=zL kd (k:=13) rfl;clear kd))
 clear x14 y14;generalize w14.setCell _ _=W at *;have cc0:=(zL E14.o (k:=0) rfl).1;obtain⟨z0,q0,f0⟩:=qQ E14.o (k:=0) C;have cc1:=(zL E14.o (k:=1) rfl).1;obtain⟨z1,q1,f1⟩:=qQ E14.o (k:=1) C;have cc2:=(zL E14.o (k:=2) rfl).1;obtain⟨z2,q2,f2⟩:=qQ E14.o (k:=2) C;have cc3:=(zL E14.o (k:=3) rfl).1;obtain⟨z3,q3,f3⟩:=qQ E14.o (k:=3) C;have cc4:=(zL E14.o (k:=4) rfl).1;obtain⟨z4,q4,f4⟩:=qQ E14.o (k:=4) C;have cc5:=(zL E14.o (k:=5) rfl).1;obtain⟨z5,q5,f5⟩:=qQ E14.o (k:=5) C;have cc6:=(zL E14.o (k:=6) rfl).1;obtain⟨z6,q6,f6⟩:=qQ E14.o (k:=6) C;have cc7:=(zL E14.o (k:=7) rfl).1;obtain⟨z7,q7,f7⟩:=qQ E14.o (k:=7) C;have cc8:=(zL E14.o (k:=8) rfl).1;obtain⟨z8,q8,f8⟩:=qQ E14.o (k:=8) C;have cc9:=(zL E14.o (k:=9) rfl).1;obtain⟨z9,q9,f9⟩:=qQ E14.o (k:=9) C;have cc10:=(zL E14.o (k:=10) rfl).1;obtain⟨z10,q10,f10⟩:=qQ E14.o (k:=10) C;have cc11:=(zL E14.o (k:=11) rfl).1;obtain⟨z11,q11,f11⟩:=qQ E14.o (k:=11) C;have cc12:=(zL E14.o (k:=12) rfl).1;obtain⟨z12,q12,f12⟩:=qQ E14.o (k:=12) C;have cc13:=(zL E14.o (k:=13) rfl).1;obtain⟨z13,q13,f13⟩:=qQ E14.o (k:=13) C;all_goals(go_region_with(go_at_call 45;(with_reducible refine(oP (E14.o.at_.grown (zM _)) rfl).mono ?_);rintro e w15 ⟨rfl,rfl⟩))
 all_goals clear cc0 cc1 cc2 cc3 cc4 cc5 cc6 cc7 cc8 cc9 cc10 cc11 cc12 cc13
 all_goals go_wp2
 all_goals(
  (try simp only[Exit.inBlock,Exit.then])
  have hd:=gC E14.o [.int .i64 R.number,.int .i64 R.version,.string R.tenant,.int .i64 R.session,.string R.action,.string R.path,.int .i64 R.day,.bool R.granted,.int .i64 R.user,.slice p1 n1 c1,.slice p2 n2 c2,.string R.does,.string R.at_,.bool R.deep] rfl;simp only[World.setCells,Lz,Nat.reduceAdd]at hd;obtain⟨B1,i1⟩:=hd.2.2 (.slice p1 n1 c1,zI R.up) (LP _ LG);obtain⟨B2,i2⟩:=hd.2.2 (.slice p2 n2 c2,zI R.down) LG;refine bodyPost_ret (v:=.tuple #[Zy R p1 p2 n1 n2 c1 c2,.bool true]) ?_ rfl ⟨p1,n1,c1,p2,n2,c2,rfl,hd.1,fN i1,fN i2⟩
  exact nI rfl rfl hd.2.1 rfl)
end RD
end
section
open TR
namespace KQ
open KP(tabs)
open RD(In)
def WT(t:kG w)(k:jR (· = h) w w2)(h1:h≠1)(h2:h≠2):kG w2:=
 ⟨@zx.heap unk0 _ _ _ _ _ _ t.1 (k.1 _ (zx.lt t.1) λe=>h1 e.symm),@zx.heap unk0 _ _ _ _ _ _ t.2 (k.1 _ (zx.lt t.2) λe=>h2 e.symm)⟩
def CZ{L:Eb}(hi:In w p L)(k:jR (· = h) w w2)(hp:∀a,p=some a->a.block≠h):In w2 p L:=by
 refine⟨hi.1,λhn=>?_⟩;obtain⟨b,o,rfl,hc⟩:=hi.2 hn;refine⟨b,o,rfl,λi x hx=>?_⟩;have:=hc i x hx;rw[cell?_of_block (k.1 b (block_lt_of_cell? w _ this) (hp _ rfl))];exact this
def RE{used:Nat}(H:HAt w h used)(t:kG w)(h1:h≠1)(h2:h≠2):Calls prog 189 #[.pointer (some ⟨h,0,none⟩),.slice (some ⟨h,25,none⟩) 136 136] w λe w2=>e = .returned (.tuple #[])/\HAt w2 h used/\jR (· = h) w w2:=by
 letI:=KP.unkK;obtain⟨a,b,tot,ha,hb,f⟩:=H;refine(zbS (u:=λi=>if i=0 then .int .i64 (used:Nat) else .int .u64 tot) ha hb (λi _=>by show yc (if i=0 then _ else _)=true;split<;>rfl) f (λp hp e=>?_) (WU t)).mono λe w2 hx=>?_
 .simp only[KP.tabs,Lf,Lq,Lo]at hp;rcases hp with rfl|rfl
  .exact h1 e.symm
  .exact h2 e.symm
 .obtain⟨rfl,⟨g,d,c⟩,k⟩:=hx;exact⟨rfl,⟨g,b,tot,d,hb,c⟩,k⟩
structure Wi(w0 w:Ea)(h g:Nat)(v:Ei):Prop where
 at_:∃L q c,v = .slice q L.length c/\L.length<=c/\In w q L/\(∀a,q=some a->a.block≠h)/\L.length<=g/\L.length<=1000000
 hash:∃u,u<136/\HAt w h u
 KX:jR (· = h) w0 w
 tab:kG w
 n1:h≠1
 n2:h≠2
def WrP(w:Ea)(h:Nat)(e:Ew)(w2:Ea):Prop:=e = .returned (.tuple #[])/\(∃u,u<136/\HAt w2 h u)/\jR (· = h) w w2
def By{wr b:Ea}{u n c1:Nat}{M:Eb}{q1:Ed}{v:Ei}(A:HAt wr h u/\In wr q1 M/\(∀a,q1=some a->a.block≠h)/\jR (· = h) w wr/\kG wr)(G:M.length<=g/\M.length<=1000000/\M.length<=c1/\0<n/\n<=136-u)(hn:n<=M.length)(hb:h≠1/\h≠2)
  (t:jR (· = h) wr b) {m:Nat} (hm:m<136) (H:HAt b h m) (hv:(v = .slice q1 (M.length-n) 0/\M.length=n)\/v = .slice (Option.map (λx=>x.add n) q1) (M.length-n) (c1-n)):Wi w b h (M.length-n) v:=by
 obtain⟨_,i,c,f,d⟩:=A;refine⟨?_,⟨m,hm,H⟩,f.trans t,WT d t hb.1 hb.2,hb.1,hb.2⟩;have hl:(M.drop n).length=M.length-n:=length_drop;rcases hv with⟨rfl,e⟩|rfl
 .exact⟨M.drop n,q1,0,by rw[hl],by rw[hl];omega,by rw[drop_eq_nil_of_le I];exact Yu _ _,c,by rw[hl];exact Lh _,by rw[hl];have:=G.2.1;omega⟩
 .refine⟨M.drop n,_,c1-n,by rw[hl],by rw[hl];have:=G.2.2.1;omega,CZ (oE i n) t ?_,?_,by rw[hl];exact Lh _,by rw[hl];have:=G.2.1;omega⟩ <;>
  .intro a ha;obtain⟨x,hx,rfl⟩:=LU.1 ha;have:(x.add n).block=x.block:=by unfold Addr.add;split<;>rfl
   rw[this];exact c x hx
def Ht{used:Nat}(H:HAt w h used)(t:kG w)(hb:h≠1/\h≠2):Calls prog 189 #[.pointer (some ⟨h,0,none⟩),.slice (some ⟨h,25,none⟩) 136 136] w λe w2=>e = .returned (.tuple #[])/\HAt w2 h used/\jR (· = h) w w2:=RE H t hb.1 hb.2
def jW(w:Ea)(h k:Nat)(v:Ei):jR (· = h) w (w.setCell ⟨h,k,none⟩ v):=eh w ⟨h,k,none⟩ v
def jk(t:kG w)(g:Grown w w2):kG w2:=⟨qi g t.1,qi g t.2⟩
def Sd{used:Nat}(H:HAt w h used)(hu:used<136)(t:kG w)(h1:h≠1)(h2:h≠2){L:Eb}{q:Ed}{c:Nat}(hi:In w q L)(hq:∀a,q=some a->a.block≠h)(hc:L.length<=c)(hl:L.length<=1000000) :
  Calls prog 139 #[.pointer (some ⟨h,0,none⟩),.slice q L.length c] w (WrP w h):=by
 obtain⟨tot,ht,hf⟩:=H.tot;have HI:=A (And.intro hi (And.intro hq (And.intro t (And.intro h1 h2))));have HH:=A H;clear H t hi hq h1 h2;go_enter func139,ntmps139;go_wp2
 go_loopg [1,4] L.length (λg s1 s4 wr=>Wi w wr h g s1)
 case atStart=>
  obtain⟨k1,k2,k3,k4,k5⟩:=HI.o;have ts:=eh w ⟨h,162,none⟩ (.int .u64 (IntKind.u64.wrap (tot+(L.length:Int))));exact⟨⟨L,q,c,rfl,hc,CZ k1 ts k2,k2,Lh _,hl⟩,⟨used,hu,HH.o.zcZ _⟩,ts,WT k3 ts k4 k5,k4,k5⟩
 case round=>
  clear HI HH;obtain⟨⟨M,q1,c1,rfl,hc1,hi1,hq1,hg1,hl1⟩,⟨u,hu1,H1⟩,tn,tb,n1,n2⟩:=hrel;have hcu:=H1.used;have hcv:=hcu.2;replace hcu:=hcu.1;by_cases hM:M=[]
  .subst hM;have HX:=A (show WrP w h (.returned (.tuple #[])) wr from⟨rfl,⟨u,hu1,H1⟩,tn⟩);clear hi1 hq1 H1 tn tb;go_wp2
   exact⟨rfl,_,results_none rfl _ _ _,HX.o⟩
  .have hpos:(0:Int)<(M.length:Int):=by have:=AV.2 hM;omega
   have hu0:(0:Int)<=(u:Int):=by omega
   have hu136:(u:Int)<=136:=by omega
   have h136:¬136=u:=by omega
   obtain⟨n,hn⟩:∃n,min M.length (136-u)=n:=⟨_,rfl⟩
   have HN:=A hn;have hn0:(0:Int)<=(n:Int):=by omega
   have hnM:(n:Int)<=(M.length:Int):=by omega
   have hnc:(n:Int)<=(c1:Int):=by omega
   have hwr:IntKind.i64.wrap ((u:Int)+(n:Int))=(u:Int)+(n:Int):=by rw[IntKind.wrap_i64];omega
   have A1:=A (And.intro H1 (And.intro hi1 (And.intro hq1 (And.intro tn tb))));have HM:=A hM;have HU:=A hu1;have hle:n<=136-u:=by omega
   have HG:=A (And.intro hg1 (And.intro hl1 (And.intro hc1 (And.intro (show 0<n by have:=AV.2 hM;omega) hle))));have HB:=A (And.intro n1 n2);by_cases hfull:u+n=136
   .have hfi:((u:Int)+(n:Int)==136)=true:=by simp;omega
    clear H1 hi1 hq1 tn tb hM hn n1 n2 hg1 hl1 hle;go_wp2;go_region_law (refine ez (.tmp 27) (.tmp 28) (dl:=136-u) (dc:=136-u) (p:=q1) (c:=c1) rfl rfl (A1.o.1.grown (zM _)) HU.o HN.o rfl (by simp[Act.eval,Act.put]) (by simp[Act.eval,Act.put]) (RD.ym A1.o.2.1 (zM _)) HM.o ?_;intro w4 g4 t4;have c4:=g4.used.1;have f4:=g4.used.2;have G4:=A g4;have T4:=A t4;clear g4 t4)
    go_wp2
    all_goals(
     go_region_with(go_at_call 189;(with_reducible refine(Ht ((G4.o.zcY (m:=136) I).grown (zM _)) (jk (WT (WT (jk A1.o.2.2.2.2 (zM _)) T4.o HB.o.1 HB.o.2) (jW _ _ _ _) HB.o.1 HB.o.2) (zM _)) HB.o).mono ?_);rintro e w5 ⟨rfl,g5,t5⟩;have c5:=g5.used.1;have f5:=g5.used.2;have G5:=A g5;have T5:=A t5;clear g5 t5))
    all_goals go_wp2
    all_goals(
     go_roundg (M.length-n)
     case measure=>have:=HG.o;omega
     case rel=>exact By A1.o HG.o I HB.o ((((((jR.zH (zM _)).trans T4.o).trans (jW _ _ _ _)).trans (jR.zH (zM _))).trans T5.o).trans (jW _ _ _ _)) (m:=0) C (G5.o.zcY rfl) (by first|exact .inl ⟨rfl,by have:=HG.o;omega⟩|exact .inr rfl))
   .have hfi:((u:Int)+(n:Int)==136)=false:=by simp;omega
    clear H1 hi1 hq1 tn tb hM hn n1 n2 hg1 hl1 hle;go_wp2;go_region_law (refine ez (.tmp 27) (.tmp 28) (dl:=136-u) (dc:=136-u) (p:=q1) (c:=c1) rfl rfl (A1.o.1.grown (zM _)) HU.o HN.o rfl (by simp[Act.eval,Act.put]) (by simp[Act.eval,Act.put]) (RD.ym A1.o.2.1 (zM _)) HM.o ?_;intro w4 g4 t4;have c4:=g4.used.1;have f4:=g4.used.2;have G4:=A g4;have T4:=A t4;clear g4 t4)
    go_wp2
    all_goals(
     go_roundg (M.length-n)
     case measure=>have:=HG.o;omega
     case rel=>exact By A1.o HG.o I HB.o (((jR.zH (zM _)).trans T4.o).trans (jW _ _ _ _)) (m:=u+n) (by have:=HG.o;have:=HU.o;omega) (G4.o.zcY I) (by first|exact .inl ⟨rfl,by have:=HG.o;omega⟩|exact .inr rfl))
end KQ
end
section
open TR
open Go.AuditPlain(put)
namespace RD
def qP(w:Ea):Grown w w:=⟨λ_ _=>rfl,Lh _,rfl,rfl,rfl⟩
end RD
end
end Go.AEv
