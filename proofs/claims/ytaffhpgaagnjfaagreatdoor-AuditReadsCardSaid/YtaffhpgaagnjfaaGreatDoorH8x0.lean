/- Trails: H8x0. Conditions: each theorem's. -/
import Derived.Test.YtaffhpgaagnjfaaGreatDoorL8a
import Derived.Deep.RegionWith
set_option linter.all false
open Go.Proofs.Tryz
open Go.Proofs
set_option maxHeartbeats 8000000
set_option maxRecDepth 100000
namespace Go.AEv
variable{a cs:Ec}{b c2 d1 d2 m1 m2 n1 n2 x:Nat}{p1 p2 q1 q2:Ed}{t:Eg}{u w w2:Ea}
open Go
open NV(jn)
open RD(recAt)
open KW(JZ J9 kj)
open KQ(jR ky qB qN)
section
open TR
namespace GT
def DP{ops:Ep}{rest:Er}{o:Oper}{a:Act}{Q:Eo}{m:Nat}(x y:Ev){r:Nat}{old:Ec}(hi:(Tryz.prog.info? t).map (·.size)=some m)(l:zx prog w (r,0,0) t old)(f:old.length=m)(hl:cs.length=m)(h1:∀v∈cs,v.oneCell'=true)(p:o.guard=none)(n:o.op = .store t x y)
  (hx:a.eval x = .pointer (some ⟨r,0,none⟩)) (hy:a.eval y = .agg cs.toArray)
  (hK:∀w',zx prog w' (r,0,0) t cs->jR (· = r) w w'->wpList prog ops Q rest (a.put o.dst undef) w'):wpList prog ops Q (o::rest) a w:=by
 obtain⟨arr,fz,e,d,h,H,r5⟩:=l;have d:0+old.length+0*_<=arr.size:=d;rw[f]at d;have k:m<=arr.size:=by omega
 refine wpList_store_mid p t x y n r 0 cs.toArray hx hy (λj g=>?_) (by rw[AQ,hl];exact hi) (all_oneCell_toArray h1) (hK _ ?_ (ky _ _ _ _))
 .rw[AQ,hl]at g;have b:0+j<arr.size:=by omega
  refine⟨?_,?_⟩
  .unfold World.cell?;rw[e];show(arr[0+j]?).isSome=true;rw[Av b];rfl
  .unfold World.frozen?;rw[e];have:=h _ b;show(decide (fz.1<=0+j)&&decide (0+j<fz.2))=false;rw[AG,LH,LH];omega
 .obtain⟨c,g1,z,u,_⟩:=jl r cs.toArray.toList 0 w arr t fz e (by rw[AI,hl];omega);refine⟨c,fz,g1,?_,λi hi=>h i I,Nat.dvd_zero _,λj g=>?_⟩
  .show 0+cs.length+0*_<=_;rw[Nat.zero_mul,hl,z];omega
  .have:=u j (by rw[AI];exact g);rw[AI]at this;exact this
def si{k:Nat}{v:Ei}(h:zx prog w (b,0,0) t a)(d:k<a.length):zx prog (w.setCell ⟨b,k,none⟩ v) (b,0,0) t (a.set k v):=by
 obtain⟨arr,fz,h1,h2,h3,g,f⟩:=h;have h2:0+a.length+0*_<=arr.size:=h2;refine⟨arr.setIfInBounds k v,fz,?_,by rw[AM,LF];exact h2,λi hi=>h3 i (by rw[AM]at hi;exact hi),g,λj c=>?_⟩
 .unfold World.setCell;show(w.heap.modify b _)[b]?=_;rw[AD,Y rfl];show Option.map _ w.heap[b]?=_;rw[show w.heap[b]?=_ from h1];rfl
 .rw[LF]at c;show(arr.setIfInBounds k v)[0+j]?=_;rw[AN,List.getElem?_set];by_cases e:k=j
  .subst e;rw[Y I,Y rfl,Y I,Y d]
  .rw[O I,O e];exact f j c
def Ud(w:Ea){z:Eh}:zx prog (w.alloc (.cells z t)) (w.heap.size,0,0) t z.toList:=
 ⟨z,(0,0),heap_alloc_new w _,by rw[Nat.zero_mul];simp,λi _ h=>I,Nat.dvd_zero _,λj _=>Oc⟩
def lH{k:Nat}{v:Ei}(h:zx prog w (b,0,0) t a)(c:a[k]?=some v):w.cell? ⟨b,k,none⟩=some v/\w.frozen? ⟨b,k,none⟩=false:=by
 have hc:=TR.cell_of_row h c;rw[Lz]at hc;refine⟨hc,?_⟩;obtain⟨arr,fz,h1,h2,h3,e,d⟩:=h;have c:=(LL.1 c).1;have h2:0+a.length+0*_<=arr.size:=h2;unfold World.frozen?;rw[h1];have:=h3 k I;show(decide (fz.1<=k)&&decide (k<fz.2))=false;rw[AG,LH,LH];omega
def R0(w:Ea)(R:zy)(e:Ew)(w2:Ea):Prop:=∃p1 n1 c1 p2 n2 c2,e = .returned (Zy R p1 p2 n1 n2 c1 c2)/\Grown w w2/\AtS w2 (.slice p1 n1 c1) R.up/\AtS w2 (.slice p2 n2 c2) R.down
structure CY(w0 w:Ea)(x:Nat)(R:zy)(p1 p2:Ed)(n1 n2 c1 c2:Nat):Prop where
 g:Grown w0 w
 b1:zx prog w (x,0,0) 42 (yX (R,.slice p1 n1 c1,.slice p2 n2 c2))
 b2:∃old:List Value,old.length=14/\zx prog w (x+1,0,0) 42 old
def CY.grown{R:zy}{c1:Nat}(h:CY u w x R p1 p2 n1 n2 c1 c2)(g:Grown w w2):CY u w2 x R p1 p2 n1 n2 c1 c2:=by
 obtain⟨old,h1,h2⟩:=h.b2;exact⟨h.g.trans' g,qi g h.b1,old,h1,qi g h2⟩
def CY.c9{R:zy}{c1:Nat}(h:CY u w x R p1 p2 n1 n2 c1 c2):w.cell? ⟨x,9,none⟩=some (.slice p1 n1 c1)/\w.frozen? ⟨x,9,none⟩=false:=lH h.b1 rfl
def CY.c10{R:zy}{c1:Nat}(h:CY u w x R p1 p2 n1 n2 c1 c2):w.cell? ⟨x,10,none⟩=some (.slice p2 n2 c2)/\w.frozen? ⟨x,10,none⟩=false:=lH h.b1 rfl
def zer(w:Ea){R:zy}{c1:Nat}{z z2:Eh}(b:z.toList=yX (R,.slice p1 n1 c1,.slice p2 n2 c2))(a:z2.toList.length=14):CY w ((w.alloc (.cells z 42)).alloc (.cells z2 42)) w.heap.size R p1 p2 n1 n2 c1 c2:=by
 have e:(w.alloc (.cells z 42)).heap.size=w.heap.size+1:=by unfold World.alloc;simp
 refine⟨(zc _ _).trans' (zc _ _),?_,z2.toList,a,?_⟩
 .rw[<- b];exact qi (zc _ _) (Ud w)
 .rw[<- e];exact Ud _
def NY:(Tryz.prog.info? 42).map (·.size)=some 14:=U
def under42:∃d,Tryz.prog.underlying 42=some d/\d.isRow=true:=LU.1 (show(Tryz.prog.underlying 42).map (·.isRow)=some true by kernel_rfl)
def tu{e:Ent}(h:cs=yX e):cs.length=14:=by rw[h,Jw]
def zdX{e:Ent}(h:cs=yX e):(Tryz.prog.info? 42).map (·.size)=some cs.length:=by rw[tu h];exact NY
def sL{R:zy}(h:cs=yX (R,Value.slice q1 m1 d1,Value.slice q2 m2 d2)):∀v∈cs,v.oneCell'=true:=by
 have:=aN (es:=[(R,Value.slice q1 m1 d1,Value.slice q2 m2 d2)]) (λe he=>by rw[Lu]at he;subst he;exact⟨rfl,rfl⟩);intro v hv;rw[h]at hv;exact this v (by unfold cellsOf;rw[List.flatMap_singleton];exact hv)
def lG(h:zx prog w (b,0,0) t a):w.rangeAt b 0 a:=λj v c=>by have:=TR.cell_of_row h c;exact this
def U0{d:Ec}{v:Ei}{o:En}(h:AtS w v o)(g:zx prog w (b,0,0) t d)(f:t≠3)(k:jR (· = b) w w2):AtS w2 v o:=
 ba h λc arr fz hc=>k.1 c (LO.1 hc).1 λe=>by
  have e:c=b:=e;subst e;obtain⟨a,i,h1,_⟩:=g;have h1:w.heap[c]?=_:=h1;rw[hc]at h1;simp only[Ag,Obj.cells.injEq]at h1;exact f h1.2.1.symm
def Il(R:zy)(a b c d:Ei):((yX (R,a,b)).set 9 c).set 10 d=yX (R,c,d):=rfl
def zbf{R:zy}{c1:Nat}(h:CY u w x R p1 p2 n1 n2 c1 c2)(hx:u.heap.size<=x)(b:AtS w (.slice q1 m1 d1) R.up)(hd:AtS w (.slice q2 m2 d2) R.down) :
  Grown u ((w.setCell ⟨x,9,none⟩ (.slice q1 m1 d1)).setCell ⟨x,10,none⟩ (.slice q2 m2 d2))/\((w.setCell ⟨x,9,none⟩ (.slice q1 m1 d1)).setCell ⟨x,10,none⟩ (.slice q2 m2 d2)).rangeAt x 0 (yX (R,.slice q1 m1 d1,.slice q2 m2 d2)) /\
  (∃old:List Value,old.length=14/\zx prog ((w.setCell ⟨x,9,none⟩ (.slice q1 m1 d1)).setCell ⟨x,10,none⟩ (.slice q2 m2 d2)) (x+1,0,0) 42 old) /\
  AtS ((w.setCell ⟨x,9,none⟩ (.slice q1 m1 d1)).setCell ⟨x,10,none⟩ (.slice q2 m2 d2)) (.slice q1 m1 d1) R.up/\AtS ((w.setCell ⟨x,9,none⟩ (.slice q1 m1 d1)).setCell ⟨x,10,none⟩ (.slice q2 m2 d2)) (.slice q2 m2 d2) R.down:=by
 have t1:=(KQ.jW w x 9 (.slice q1 m1 d1)).trans (KQ.jW (w.setCell ⟨x,9,none⟩ (.slice q1 m1 d1)) x 10 (.slice q2 m2 d2));obtain⟨old,h1,h2⟩:=h.b2;refine⟨qB h.g t1 λk a=>by have a:k=x:=a;omega,?_,⟨old,h1,KQ.eJ h2 t1 (by show ¬x+1=x;omega)⟩,U0 b h.b1 C t1,U0 hd h.b1 C t1⟩;have hv:=si (v:=.slice q2 m2 d2) (si (v:=.slice q1 m1 d1) h.b1 (k:=9) (by rw[Jw];decide)) (k:=10) (by rw[LF,Jw];decide);rw[Il]at hv;exact lG hv
def PY{R:zy}{old:Ec}(a:cs=yX (R,.slice q1 m1 d1,.slice q2 m2 d2))(g:Grown w w2)(d:AtS w2 (.slice q1 m1 d1) R.up)(hd:AtS w2 (.slice q2 m2 d2) R.down)(t:jR (· = w.heap.size+1) w2 u)(b:zx prog w2 (w.heap.size+1,0,0) 42 old):R0 w R (.returned (.agg cs.toArray)) u:=by
 refine⟨q1,m1,d1,q2,m2,d2,by rw[a];rfl,qB g t λk c=>by have c:k=w.heap.size+1:=c;omega,U0 d b C t,U0 hd b C t⟩
def PZ{R:zy}{c1:Nat}(hg:JZ R)(h1:AtS w (.slice p1 n1 c1) R.up)(h2:AtS w (.slice p2 n2 c2) R.down):Calls prog 29 #[Zy R p1 p2 n1 n2 c1 c2] w (R0 w R):=by
 have HG:=A hg;have HU:=A h1;have HD:=A h2;have HN:RowKit.Hid (n1<=1000/\n2<=1000):=A ⟨by rw[fC h1];have:=hg.up;omega,by rw[fC h2];have:=hg.down;omega⟩;clear hg h1 h2;go_enter func29,ntmps29;go_wp2_with fail
 case _=>
  have Y0:=A (zer w (R:=R) (p1:=p1) (p2:=p2) (n1:=n1) (n2:=n2) (c1:=c1) (c2:=c2) (z:=#[.int .i64 R.number,.int .i64 R.version,.string R.tenant,.int .i64 R.session,.string R.action,.string R.path,.int .i64 R.day,.bool R.granted,.int .i64 R.user,.slice p1 n1 c1,.slice p2 n2 c2,.string R.does,.string R.at_,.bool R.deep]) (z2:=#[.int .i64 0,.int .i64 0,.string ⟨#[]⟩,.int .i64 0,.string ⟨#[]⟩,.string ⟨#[]⟩,.int .i64 0,.bool false,.int .i64 0,.slice none 0 0,.slice none 0 0,.string ⟨#[]⟩,.string ⟨#[]⟩,.bool false]) rfl rfl);have HU0:=A ((qh.zH Y0.o.g).atS HU.o);have HD0:=A ((qh.zH Y0.o.g).atS HD.o);generalize ((w.alloc _).alloc _)=w0 at *;have YD:=A (Y0.o.grown (zM w0));have HUD:=A ((qh.zH (zM w0)).atS HU0.o);have HDD:=A ((qh.zH (zM w0)).atS HD0.o);obtain⟨a9,f9⟩:=Y0.o.c9;obtain⟨a10,f10⟩:=Y0.o.c10
  go_region_with(first
   | (go_at_call 65;(with_reducible refine(Dl HUD.o HN.o.1 HG.o.upn).mono ?_);rintro e w1 ⟨q1,m1,d1,rfl,k1,k2⟩;have Y1:=A (YD.o.grown k1);have G1:=A k1;have U1:=A k2;obtain⟨b9,g9⟩:=Y1.o.c9;obtain⟨b10,g10⟩:=Y1.o.c10;clear k1 k2)
   | (go_at_call 65;(with_reducible refine(Dl ((qh.zH G1.o).atS HDD.o) HN.o.2 HG.o.downn).mono ?_);rintro e w2 ⟨q2,m2,d2,rfl,k1,k2⟩;have Y2:=A (Y1.o.grown k1);have U2:=A ((qh.zH k1).atS U1.o);have D2:=A k2;obtain⟨c9,h9⟩:=Y2.o.c9;obtain⟨c10,h10⟩:=Y2.o.c10;clear k1 k2))
  all_goals(
   obtain⟨k1,k2,k3,k4,k5⟩:=zbf Y2.o (Lh _) U2.o D2.o;generalize (w2.setCell _ _).setCell _ _=W at *;obtain⟨old,hol,hrow⟩:=k3;obtain⟨cs,hcs⟩:∃cs,cs=yX (R,Value.slice q1 m1 d1,Value.slice q2 m2 d2):=⟨_,rfl⟩
   rw[<- hcs]at k2;have HCS:=A hcs;have KG:=A k1;have KR:=A k2;have KO:=A (And.intro hol hrow);have KU:=A k4;have KD:=A k5;obtain⟨dd,hu42,hd42⟩:=under42;have H42:=A (zdX hcs);clear k1 k2 hol hrow k4 k5 hcs a9 f9 a10 f10 b9 g9 b10 g10 c9 h9 c10 h10
   go_wp2_with(first
    | (refine eg _ hu42 hd42 H42.o rfl KR.o (by rfl) rfl ?_)
    | (refine DP _ _ NY KO.o.2 KO.o.1 (tu HCS.o) (sL HCS.o) rfl rfl rfl rfl ?_;intro w4 k1 k2;have R4:=A k1;have T4:=A k2;clear k1 k2))
   try simp only[Exit.inBlock,Exit.then]
   refine bodyPost_ret (qN (p:=2) (ty:=42) rfl _ w4 (w.heap.size+1) cs _ rfl (lG R4.o) hu42 hd42 H42.o) rfl ?_
   exact PY HCS.o KG.o KU.o KD.o T4.o (KO.o.2))
end GT
end
end Go.AEv
