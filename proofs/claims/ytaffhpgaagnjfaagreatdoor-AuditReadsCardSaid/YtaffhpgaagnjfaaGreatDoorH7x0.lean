/- Trails: H7x0. Conditions: each theorem's. -/
import Derived.Test.YtaffhpgaagnjfaaGreatDoorL7a
set_option linter.all false
open Go.Proofs.Tryz
open Go.Proofs
set_option maxHeartbeats 8000000
set_option maxRecDepth 100000
namespace Go.AEv
variable{c2 n1 n2:Nat}{p1 p2:Ed}
open Go
open NV(QG Bp R8 jn aT Wo)
open RD(recAt)
open KW(JZ J9 kj)
section
open TR
namespace GT
structure CB(w:Ea)(x y:Nat)(R:zy)(p1 p2:Ed)(n1 n2 c1 c2:Nat):Prop where
 box:recAt w x 0 R p1 p2 n1 n2 c1 c2
 q0:w.cell? ⟨y,0,none⟩=some (.int .i64 R.user)
 q1:w.cell? ⟨y,1,none⟩=some (.slice p1 n1 c1)
 q2:w.cell? ⟨y,2,none⟩=some (.slice p2 n2 c2)
 q3:w.cell? ⟨y,3,none⟩=some (.string R.does)
 q4:w.cell? ⟨y,4,none⟩=some (.string R.at_)
 q5:w.cell? ⟨y,5,none⟩=some (.bool R.deep)
section
variable{w w1 w2:Ea}{x y:Nat}{R:zy}{p1 p2:Ed}{n1 n2 c1 c2:Nat}
def CB.grown(h:CB w1 x y R p1 p2 n1 n2 c1 c2)(g:Grown w1 w2):CB w2 x y R p1 p2 n1 n2 c1 c2:=
 ⟨kj h.box g,RD.zz h.q0 g,RD.zz h.q1 g,RD.zz h.q2 g,RD.zz h.q3 g,RD.zz h.q4 g,RD.zz h.q5 g⟩
def pn(w:Ea){z:Eh}(a:Zy R p1 p2 n1 n2 c1 c2 = .agg z):CB ((w.alloc (.cells z 42)).alloc (.cells #[.int .i64 R.user,.slice p1 n1 c1,.slice p2 n2 c2,.string R.does,.string R.at_,.bool R.deep] 40)) w.heap.size (w.heap.size+1) R p1 p2 n1 n2 c1 c2:=by
 have e:(w.alloc (.cells z 42)).heap.size=w.heap.size+1:=by unfold World.alloc;simp
 rw[<- e];exact⟨kj (J9 w a) (zc _ _),jn _ rfl,jn _ rfl,jn _ rfl,jn _ rfl,jn _ rfl,jn _ rfl⟩
def nL{b:Bool}(h:R.granted=b):Zy R p1 p2 n1 n2 c1 c2 = .agg #[.int .i64 R.number,.int .i64 R.version,.string R.tenant,.int .i64 R.session,.string R.action,.string R.path,.int .i64 R.day,.bool b,.int .i64 R.user,.slice p1 n1 c1,.slice p2 n2 c2,.string R.does,.string R.at_,.bool R.deep]:=by
 subst h;rfl
def fC{o:En}{p:Ed}{n c:Nat}(h:AtS w (.slice p n c) o):n=qj o:=by
 obtain⟨a,b,e⟩:=h.slice;cases e;rfl
def KN{b a:Ec}(h:Vz w p1 n1 b/\Vz w p2 n2 a)(g:Grown w w2)(d:n1<=63)(c:n2<=63):RM (w2.alloc (.cells #[.slice p1 n1 c1,.slice p2 n2 c2] 36)) w2.heap.size p1 p2 n1 c1 n2 c2 b a:=
 ⟨jn _ rfl,jn _ rfl,h.1.grown (g.trans' (zc _ _)),h.2.grown (g.trans' (zc _ _)),I,I⟩
def C7{p:Ed}{n:Nat}{us:Ec}(h:Vz w p n us):n<=100000:=Lj h.few C
end
def zbq{w:Ea}{R:zy}{c1:Nat}(hg:JZ R)(hm:QG w)(h1:AtS w (.slice p1 n1 c1) R.up)(h2:AtS w (.slice p2 n2 c2) R.down)(hgr:R.granted=true):Calls prog 30 #[Zy R p1 p2 n1 n2 c1 c2] w (Bp w):=by
 have HG:=A hg;have HM:=A hm;have HU:=A h1;have HD:=A h2;have hn1:n1<=63:=by rw[fC h1];exact hg.up
 have hn2:n2<=63:=by rw[fC h2];exact hg.down
 have hu0:=hg.user.1;have hu1:=hg.user.2;obtain⟨us1,hl1⟩:=dz h1 I;obtain⟨us2,hl2⟩:=dz h2 I;have HL:=A (And.intro hl1 hl2);clear hg hm h1 h2 hl1 hl2;go_enter func30,ntmps30
 go_wp2_with(first
  | (go_at_call 76;(with_reducible refine(aT (Lj HG.o.tenant C)).mono ?_);rintro e w1 ⟨b1,rfl,k1⟩;have G1:=A (((zc _ _).trans' (zc _ _)).trans' k1);have B1:=A ((pn w (nL hgr)).grown k1);have x3:=B1.o.box.2.2.2.1;have x4:=B1.o.box.2.2.2.2.1;have x5:=B1.o.box.2.2.2.2.2.1;clear k1;cases b1)
  | (go_at_call 77;(with_reducible refine(Wo (Lj HG.o.action C) (Lj HG.o.path C) (HM.o.grown G1.o)).mono ?_);rintro e w2 ⟨er,rfl,k2⟩;have G2:=A (G1.o.trans' k2);have B2:=A (B1.o.grown k2);have y7:=B2.o.box.2.2.2.2.2.2.2.1;have q0:=B2.o.q0;have q1:=B2.o.q1;have q2:=B2.o.q2;have q3:=B2.o.q3;have q4:=B2.o.q4;have q5:=B2.o.q5;rw[hgr]at y7;clear k2 x3 x4 x5;cases her:(er != 0))
  | (go_at_call 79;(with_reducible refine(Yj (KN HL.o G2.o hn1 hn2)).mono ?_);rintro e w3 ⟨p3,n3,c3,us3,rfl,k3,k4⟩;have G3:=A (G2.o.trans' ((zc _ _).trans' k3));have B3:=A (B2.o.grown ((zc _ _).trans' k3));have I3:=A k4;have r3:=B3.o.q3;have r4:=B3.o.q4;clear k3 k4 q0 q1 q2 q3 q4 q5 y7)
  | (go_at_call 78;(with_reducible refine(XE I3.o (C7 I3.o)).mono ?_);rintro e w4 ⟨b4,rfl,rfl⟩;cases b4))
 all_goals(go_ret;first|exact⟨_,rfl,G3.o⟩|exact⟨_,rfl,G2.o⟩|exact⟨_,rfl,G1.o⟩)
def zbr{w:Ea}{R:zy}{c1:Nat}(hg:JZ R)(hm:QG w)(h1:AtS w (.slice p1 n1 c1) R.up)(h2:AtS w (.slice p2 n2 c2) R.down)(hgr:R.granted=false):Calls prog 30 #[Zy R p1 p2 n1 n2 c1 c2] w (Bp w):=by
 have HG:=A hg;have HM:=A hm;have HU:=A h1;have HD:=A h2;have hn1:n1<=63:=by rw[fC h1];exact hg.up
 have hn2:n2<=63:=by rw[fC h2];exact hg.down
 have hu0:=hg.user.1;have hu1:=hg.user.2;obtain⟨us1,hl1⟩:=dz h1 I;obtain⟨us2,hl2⟩:=dz h2 I;have HL:=A (And.intro hl1 hl2);clear hg hm h1 h2 hl1 hl2
 cases huz:(R.user != 0) with
 | true=>
  go_enter func30,ntmps30
  go_wp2_with(first
   | (go_at_call 76;(with_reducible refine(aT (Lj HG.o.tenant C)).mono ?_);rintro e w1 ⟨b1,rfl,k1⟩;have G1:=A (((zc _ _).trans' (zc _ _)).trans' k1);have B1:=A ((pn w (nL hgr)).grown k1);have x3:=B1.o.box.2.2.2.1;have x4:=B1.o.box.2.2.2.2.1;have x5:=B1.o.box.2.2.2.2.2.1;clear k1;cases b1)
   | (go_at_call 77;(with_reducible refine(Wo (Lj HG.o.action C) (Lj HG.o.path C) (HM.o.grown G1.o)).mono ?_);rintro e w2 ⟨er,rfl,k2⟩;have G2:=A (G1.o.trans' k2);have B2:=A (B1.o.grown k2);have y7:=B2.o.box.2.2.2.2.2.2.2.1;have q0:=B2.o.q0;have q1:=B2.o.q1;have q2:=B2.o.q2;have q3:=B2.o.q3;have q4:=B2.o.q4;have q5:=B2.o.q5;rw[hgr]at y7;clear k2 x3 x4 x5;cases her:(er != 0))
   | (go_at_call 79;(with_reducible refine(Yj (KN HL.o G2.o hn1 hn2)).mono ?_);rintro e w3 ⟨p3,n3,c3,us3,rfl,k3,k4⟩;have G3:=A (G2.o.trans' ((zc _ _).trans' k3));have B3:=A (B2.o.grown ((zc _ _).trans' k3));have I3:=A k4;have r3:=B3.o.q3;have r4:=B3.o.q4;clear k3 k4 q0 q1 q2 q3 q4 q5 y7)
   | (go_at_call 78;(with_reducible refine(XE I3.o (C7 I3.o)).mono ?_);rintro e w4 ⟨b4,rfl,rfl⟩;cases b4))
  all_goals(go_ret;first|exact⟨_,rfl,G3.o⟩|exact⟨_,rfl,G2.o⟩|exact⟨_,rfl,G1.o⟩)
 | false=>
  have hw:RowKit.wrap64 ((n1:Int)+(n2:Int))=(n1:Int)+(n2:Int):=by unfold RowKit.wrap64;omega
  by_cases hs:(0:Int)<(n1:Int)+(n2:Int)
  .go_enter func30,ntmps30
   go_wp2_with(first
    | (go_at_call 76;(with_reducible refine(aT (Lj HG.o.tenant C)).mono ?_);rintro e w1 ⟨b1,rfl,k1⟩;have G1:=A (((zc _ _).trans' (zc _ _)).trans' k1);have B1:=A ((pn w (nL hgr)).grown k1);have x3:=B1.o.box.2.2.2.1;have x4:=B1.o.box.2.2.2.2.1;have x5:=B1.o.box.2.2.2.2.2.1;clear k1;cases b1)
    | (go_at_call 77;(with_reducible refine(Wo (Lj HG.o.action C) (Lj HG.o.path C) (HM.o.grown G1.o)).mono ?_);rintro e w2 ⟨er,rfl,k2⟩;have G2:=A (G1.o.trans' k2);have B2:=A (B1.o.grown k2);have y7:=B2.o.box.2.2.2.2.2.2.2.1;have q0:=B2.o.q0;have q1:=B2.o.q1;have q2:=B2.o.q2;have q3:=B2.o.q3;have q4:=B2.o.q4;have q5:=B2.o.q5;rw[hgr]at y7;clear k2 x3 x4 x5;cases her:(er != 0))
    | (go_at_call 79;(with_reducible refine(Yj (KN HL.o G2.o hn1 hn2)).mono ?_);rintro e w3 ⟨p3,n3,c3,us3,rfl,k3,k4⟩;have G3:=A (G2.o.trans' ((zc _ _).trans' k3));have B3:=A (B2.o.grown ((zc _ _).trans' k3));have I3:=A k4;have r3:=B3.o.q3;have r4:=B3.o.q4;clear k3 k4 q0 q1 q2 q3 q4 q5 y7)
    | (go_at_call 78;(with_reducible refine(XE I3.o (C7 I3.o)).mono ?_);rintro e w4 ⟨b4,rfl,rfl⟩;cases b4))
   all_goals(go_ret;first|exact⟨_,rfl,G3.o⟩|exact⟨_,rfl,G2.o⟩|exact⟨_,rfl,G1.o⟩)
  .go_enter func30,ntmps30
   go_wp2_with(first
    | (go_at_call 76;(with_reducible refine(aT (Lj HG.o.tenant C)).mono ?_);rintro e w1 ⟨b1,rfl,k1⟩;have G1:=A (((zc _ _).trans' (zc _ _)).trans' k1);have B1:=A ((pn w (nL hgr)).grown k1);have x3:=B1.o.box.2.2.2.1;have x4:=B1.o.box.2.2.2.2.1;have x5:=B1.o.box.2.2.2.2.2.1;clear k1;cases b1)
    | (go_at_call 77;(with_reducible refine(Wo (Lj HG.o.action C) (Lj HG.o.path C) (HM.o.grown G1.o)).mono ?_);rintro e w2 ⟨er,rfl,k2⟩;have G2:=A (G1.o.trans' k2);have B2:=A (B1.o.grown k2);have y7:=B2.o.box.2.2.2.2.2.2.2.1;have q0:=B2.o.q0;have q1:=B2.o.q1;have q2:=B2.o.q2;have q3:=B2.o.q3;have q4:=B2.o.q4;have q5:=B2.o.q5;rw[hgr]at y7;clear k2 x3 x4 x5;cases her:(er != 0))
    | (go_at_call 79;(with_reducible refine(Yj (KN HL.o G2.o hn1 hn2)).mono ?_);rintro e w3 ⟨p3,n3,c3,us3,rfl,k3,k4⟩;have G3:=A (G2.o.trans' ((zc _ _).trans' k3));have B3:=A (B2.o.grown ((zc _ _).trans' k3));have I3:=A k4;have r3:=B3.o.q3;have r4:=B3.o.q4;clear k3 k4 q0 q1 q2 q3 q4 q5 y7)
    | (go_at_call 78;(with_reducible refine(XE I3.o (C7 I3.o)).mono ?_);rintro e w4 ⟨b4,rfl,rfl⟩;cases b4))
   all_goals(go_ret;first|exact⟨_,rfl,G3.o⟩|exact⟨_,rfl,G2.o⟩|exact⟨_,rfl,G1.o⟩)
def Hc{w:Ea}{R:zy}{c1:Nat}(b:JZ R)(hm:QG w)(h1:AtS w (.slice p1 n1 c1) R.up)(h2:AtS w (.slice p2 n2 c2) R.down):Calls prog 30 #[Zy R p1 p2 n1 n2 c1 c2] w (Bp w):=by
 cases a:R.granted with
 | true=>exact zbq b hm h1 h2 a
 | false=>exact zbr b hm h1 h2 a
end GT
end
end Go.AEv
