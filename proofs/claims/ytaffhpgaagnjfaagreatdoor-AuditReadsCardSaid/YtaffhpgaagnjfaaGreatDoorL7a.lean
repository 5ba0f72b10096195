/- Trails: L7a. Conditions: each theorem's. -/
import Derived.Test.YtaffhpgaagnjfaaGreatDoorH6x0
import Derived.Lib.AppendZerosOnto
import Derived.Lib.SliceRun
import Derived.Shelf.Spec.SlicesGrow
set_option linter.all false
open List Nat Go.Lib Go.Proofs.Tryz Int
open Go.Proofs
set_option maxHeartbeats 40000000
set_option maxRecDepth 100000
namespace Go.AEv
variable{a us:Ec}{c c2 m n n1 n2:Nat}{l:Eb}{p p1 p2:Ed}{v:Int}{w w2:Ea}{z:Eh}
open Go
open Go.AuditPlain(zm zT hi qs zig numbers)
open RD(Wr XU KF Low recAt zeS nM X9 tM)
open KT(zB)
section
open TR
namespace NV
def FW{s:Ee}:Calls prog 227 #[.string s] w (zcE w):=by
 by_cases h:s.size<=1000000
 .exact wH h
 .have h1:decide ((s.size:Int)<1)=false:=LC I;have h2:decide ((12:Int)<(s.size:Int))=true:=Lx I;go_enter func227,ntmps227
  go_wp2
  all_goals(go_ret;exact⟨_,rfl,rfl⟩)
def Tm{s:Ee}:Calls prog 227 #[.string s] w (λe w2=>∃b:Bool,e = .returned (.bool b)/\w=w2):=FW.mono λ_ _ ⟨b,h1,h2⟩=>⟨b,h1,h2.symm⟩
def QG(w:Ea):Prop:=∃m:Int,w.cell? ⟨0,0,none⟩=some (.int .i64 m)
def QG.grown(h:QG w)(g:Grown w w2):QG w2:=by
 obtain⟨m,h⟩:=h;exact⟨m,RD.zz h g⟩
def zkK(s:Ee)(w:Ea)(e:Ew)(w2:Ea):Prop:=∃b:Bool,e = .returned (.bool b)/\w=w2/\(b=false\/b=true/\(1:Int)<=(s.size:Int))
def Mn(s:Ee):Calls prog 225 #[.string s,.string ⟨#[47]⟩] w (zkK s w):=by
 refine(Tryz.strings_HasPrefix s ⟨#[47]⟩ w).mono λe w2 k=>⟨_,k.1,k.2.symm,?_⟩
 cases h:hasPrefix s.data.toList (⟨#[47]⟩:ByteArray).data.toList with
 | false=>exact .inl rfl
 | true=>
  refine .inr ⟨rfl,?_⟩
  cases hs:s.data.toList with
  | nil=>
   rw[hs]at h;have a:hasPrefix [] [47]=false:=by decide
   exact Ld (h.symm.trans a) C
  | cons x l=>
   have:s.data.toList.length=l.length+1:=by rw[hs];rfl
   rw[Array.length_toList]at this;show(1:Int)<=(s.data.size:Int);omega
def zkH(w:Ea)(e:Ew)(w2:Ea):Prop:=∃b n:Nat,e = .returned (.slice (some ⟨b,0,none⟩) n n)/\Grown w w2/\∀j,j<n->∃t,w2.cell? ⟨b,j,none⟩=some (.string t)
def IE{s:Ee}(hs:s.size<=1000000)(hm:QG w):Calls prog 226 #[.string s,.string ⟨#[47]⟩] w (zkH w):=by
 obtain⟨m,hm⟩:=hm;refine(Tryz.strings_Split s ⟨#[47]⟩ m w I hm C).mono λe w2 k=>?_;obtain⟨rfl,rfl⟩:=k;refine⟨_,_,rfl,zc w _,λj a=>?_⟩;have hl:=Lib.splitB_all ⟨#[47]⟩ C 0 _ s rfl;unfold World.cell?;rw[show(w.alloc (.cells ((Lib.splitB ⟨#[47]⟩ 0 (countB s ⟨#[47]⟩) s).map Value.string).toArray 9)).heap[w.heap.size]?=_ from heap_alloc_new w _];refine⟨(Lib.splitB ⟨#[47]⟩ 0 (countB s ⟨#[47]⟩) s)[j]'(by rw[hl];exact a),?_⟩;show((Lib.splitB ⟨#[47]⟩ 0 (countB s ⟨#[47]⟩) s).map Value.string).toArray[j]?=_;rw[AB,Lw,Ly];rfl
def zeh{s:Ee}(h:s.size<=1000000):(s.extract 1 s.size).size<=1000000:=by
 rw[ByteArray.size_extract];omega
def zeO(w:Ea)(e:Ew)(w2:Ea):Prop:=∃p n c b,e = .returned (.tuple #[.slice p n c,.bool b])/\Grown w w2
def vz{s:Ee}(hs:s.size<=1000000)(hm:QG w):Calls prog 188 #[.string s] w (zeO w):=by
 have HS:=A hs;have HM:=A hm;clear hs hm
 cases h0:(s.toList==[47]) with
 | true=>
  go_enter func188,ntmps188
  go_wp2
  go_ret2
  exact⟨_,_,_,_,rfl,RD.qP _⟩
 | false=>
  go_enter func188,ntmps188
  go_wp2_with(first
   | (go_at_call 225;(with_reducible refine(Mn s).mono ?_);rintro e w1 ⟨b1,rfl,rfl,hb⟩;rcases hb with rfl|⟨rfl,hb⟩)
   | (go_at_call 226;(with_reducible refine(IE (zeh HS.o) HM.o).mono ?_);rintro e w1 ⟨b1,n1,rfl,k1,k2⟩;have G1:=A k1;have C1:=A k2;clear k1 k2;cases hn:decide ((8:Int)<(n1:Int))))
  .go_ret2
   exact⟨_,_,_,_,rfl,RD.qP _⟩
  .go_loopg [20] n1 (λg i wr=>wr=w1/\∃j:Nat,j+g=n1/\i = .int .i64 j)
   case atStart=>exact⟨rfl,0,I,rfl⟩
   case round=>
    obtain⟨rfl,j,hj,rfl⟩:=hrel;have h8:n1<=8:=by have:=of_decide_eq_false hn;omega
    cases gk with
    | zero=>
     have hjm:¬((j:Int)<(n1:Int)):=by omega
     go_wp2
     go_ret2
     exact⟨_,_,_,_,rfl,G1.o⟩
    | succ g=>
     have hjm:(j:Int)<(n1:Int):=by omega
     obtain⟨t,ht⟩:=C1.o j I;have hw64:RowKit.wrap64 ((j:Int)+1)=(j:Int)+1:=by unfold RowKit.wrap64;omega
     go_wp2_with(first
      | (go_at_call 227;(with_reducible refine Tm.mono ?_);rintro e w3 ⟨b3,rfl,rfl⟩;cases b3))
     .go_ret2
      exact⟨_,_,_,_,rfl,G1.o⟩
     .go_roundg g
      case measure=>omega
      case rel=>exact⟨rfl,j+1,I,(by first|rfl|(rw[hw64];rfl))⟩
  .go_ret2
   exact⟨_,_,_,_,rfl,G1.o⟩
def jn(w:Ea){t:Eg}{k:Nat}{v:Ei}(h:z[k]?=some v):(w.alloc (.cells z t)).cell? ⟨w.heap.size,k,none⟩=some v:=by
 unfold World.cell?;rw[heap_alloc_new w _];exact h
def R8(w:Ea)(e:Ew)(w2:Ea):Prop:=∃b:Bool,e = .returned (.bool b)/\Grown w w2
def aK{s:Ee}(hs:s.size<=1000000)(hm:QG w):Calls prog 135 #[.string s] w (R8 w):=by
 have HS:=A hs;have HM:=A hm;clear hs hm;go_enter func135,ntmps135
 go_wp2_with(first
  | (go_at_call 188;(with_reducible refine(vz HS.o HM.o).mono ?_);rintro e w1 ⟨p1,n1,c1,b1,rfl,k1⟩;have G1:=A k1;clear k1))
 go_ret
 exact⟨b1,rfl,G1.o⟩
def aT{s:Ee}(hs:s.size<=1000000):Calls prog 76 #[.string s] w (R8 w):=(FX hs).mono λ_ _ ⟨b,h1,h2,_⟩=>⟨b,h1,h2⟩
def Bp(w:Ea)(e:Ew)(w2:Ea):Prop:=∃er:Int,e = .returned (.int .i64 er)/\Grown w w2
def Wo{n:Int}{a p:Ee}(ha:a.size<=1000000)(hp:p.size<=1000000)(hm:QG w):Calls prog 77 #[.agg #[.int .i64 n,.string a,.string p]] w (Bp w):=by
 have HA:=A ha;have HP:=A hp;have HM:=A hm;clear ha hp hm
 cases h1:decide (n<1) with
 | true=>
  go_enter func77,ntmps77
  go_wp2
  go_ret
  exact⟨_,rfl,zc _ _⟩
 | false=>
  go_enter func77,ntmps77
  go_wp2_with(first
   | (go_at_call 76;(with_reducible refine(aT HA.o).mono ?_);rintro e w1 ⟨b1,rfl,k1⟩;have G1:=A ((zc _ _).trans' k1);have c0:=RD.zz (jn w (k:=2) (v:=.string p) rfl) k1;clear k1;cases b1)
   | (go_at_call 135;(with_reducible refine(aK HP.o (HM.o.grown G1.o)).mono ?_);rintro e w2 ⟨b2,rfl,k2⟩;have G2:=A (G1.o.trans' k2);clear k2;cases b2))
  all_goals(go_ret;first|exact⟨_,rfl,G2.o⟩|exact⟨_,rfl,G1.o⟩)
end NV
end
section
open TR
open Go.AuditPlain(put)
namespace KW
structure WideB(R:zy):Prop where
 number:0<=R.number/\R.number<=4000
 version:0<=R.version/\R.version<=2147483647
 tenant:R.tenant.size<=1000
 session:-9223372036854775808<=R.session/\R.session<=9223372036854775807
 action:R.action.size<=1000
 path:R.path.size<=1000
 day:0<=R.day/\R.day<=30000
 user:0<=R.user/\R.user<=256
 up:qj R.up<=63
 down:qj R.down<=63
 does:R.does.size<=1000
 at_:R.at_.size<=1000
structure JZ(R:zy):Prop extends WideB R where
 upn:∀s,R.up=some s->0<s.size
 downn:∀s,R.down=some s->0<s.size
structure ES(w0:Ea)(x b:Nat)(R:zy)(p1 p2:Ed)(n1 n2 c1 c2:Nat)(L:Eb)(m:Nat)(w:Ea):Prop where
 wr:Wr w0.heap.size w b L
 low:Low w0.heap.size w0 w
 box:recAt w x 0 R p1 p2 n1 n2 c1 c2
 xlt:x<w0.heap.size
 up:Qd w0.heap.size w p1 n1 (zI R.up)
 down:Qd w0.heap.size w p2 n2 (zI R.down)
 len:L.length<=m
section
variable{w0 w w2:Ea}{x b:Nat}{R:zy}{p1 p2:Ed}{n1 n2 c1 c2:Nat}{L M:Eb}{m:Nat}
def FC{B o:Nat}(h:recAt w x o R p1 p2 n1 n2 c1 c2)(k:Low B w w2)(hx:x<B):recAt w2 x o R p1 p2 n1 n2 c1 c2:=by
 have e:∀o,w2.cell? ⟨x,o,none⟩=w.cell? ⟨x,o,none⟩:=λo=>World.cell?_of_block (a:=⟨x,o,none⟩) (k.old x hx);unfold recAt at h ⊢;simp only[e];exact h
def ES.next(h:ES w0 x b R p1 p2 n1 n2 c1 c2 L m w)(k:Wr w0.heap.size w2 b (L++M))(l:Low w0.heap.size w w2){j:Nat}(a:M.length<=j):ES w0 x b R p1 p2 n1 n2 c1 c2 (L++M) (m+j) w2:=
 ⟨k,h.low.trans l,FC h.box l h.xlt,h.xlt,h.up.low l,h.down.low l,by rw[Lm];have:=h.len;omega⟩
def Qd.up{B k:Nat}(h:Qd B w p n l)(hb:B<=k):Qd k w p n l:=
 ⟨h.len,h.few,λj c=>by obtain⟨b,o,e,a,hc⟩:=h.cell j c;exact⟨b,o,e,LK a hb,hc⟩⟩
def Qd.grown{B:Nat}(h:Qd B w p n l)(g:Grown w w2):Qd B w2 p n l:=
 ⟨h.len,h.few,λj c=>by obtain⟨b,o,e,a,hc⟩:=h.cell j c;exact⟨b,o,e,a,RD.zz hc g⟩⟩
def J9(w:Ea)(a:Zy R p1 p2 n1 n2 c1 c2 = .agg z):recAt (w.alloc (.cells z 42)) w.heap.size 0 R p1 p2 n1 n2 c1 c2:=by
 unfold Zy at a;cases a;exact⟨NV.jn w rfl,NV.jn w rfl,NV.jn w rfl,NV.jn w rfl,NV.jn w rfl,NV.jn w rfl,NV.jn w rfl,NV.jn w rfl,NV.jn w rfl,NV.jn w rfl,NV.jn w rfl,NV.jn w rfl,NV.jn w rfl,NV.jn w rfl⟩
def kj{o:Nat}(h:recAt w x o R p1 p2 n1 n2 c1 c2)(g:Grown w w2):recAt w2 x o R p1 p2 n1 n2 c1 c2:=by
 obtain⟨h1,h2,h3,p,n,l,k,j,i,f,e,d,c,a⟩:=h;exact⟨RD.zz h1 g,RD.zz h2 g,RD.zz h3 g,RD.zz p g,RD.zz n g,RD.zz l g,RD.zz k g,RD.zz j g,RD.zz i g,RD.zz f g,RD.zz e g,RD.zz d g,RD.zz c g,RD.zz a g⟩
def zej(i:Zy R p1 p2 n1 n2 c1 c2 = .agg z)(h:WideB R)(h1:AtS w (.slice p1 n1 c1) R.up)(h2:AtS w (.slice p2 n2 c2) R.down)(g:Grown (w.alloc (.cells z 42)) w2)(k:Wr (w.alloc (.cells z 42)).heap.size w2 b []) :
  ES (w.alloc (.cells z 42)) w.heap.size b R p1 p2 n1 n2 c1 c2 [] 0 w2:=by
 have a:=zc w (.cells z 42)
 have f:n1<=1000:=by
  obtain⟨p,c,e⟩:=h1.slice;cases e;have:=h.up;omega
 have d:n2<=1000:=by
  obtain⟨p,c,e⟩:=h2.slice;cases e;have:=h.down;omega
 exact⟨k,Low.zH g (Lh _),kj (J9 w i) g,by unfold World.alloc;simp,((Vb h1 f).up a.size).grown (a.trans' g),((Vb h2 d).up a.size).grown (a.trans' g),Lh _⟩
def EQ(w0:Ea)(x b:Nat)(R:zy)(p1 p2:Ed)(n1 n2 c1 c2:Nat)(L:Eb)(m:Nat)(e:Ew)(w2:Ea):Prop:=e = .returned (.tuple #[])/\ES w0 x b R p1 p2 n1 n2 c1 c2 L m w2
def oT(h:ES w0 x b R p1 p2 n1 n2 c1 c2 L m w)(a:0<=v)(h1:v<9223372036854775808)(hm:m<=60000):Calls prog 36 #[.pointer (some ⟨b,0,none⟩),.int .u64 v] w (EQ w0 x b R p1 p2 n1 n2 c1 c2 (L++put v.toNat) (m+11)):=by
 have hv:((v.toNat:Nat):Int)=v:=toNat_of_nonneg a;have hl:=h.len;exact(uint_i h.wr h.low.size hv I I).mono λ_ _ k=>⟨k.1,h.next k.2.1 k.2.2.1 (jA I)⟩
def zgR(h:ES w0 x b R p1 p2 n1 n2 c1 c2 L m w)(hv:-9223372036854775808<=v/\v<=9223372036854775807)(hm:m<=60000):Calls prog 83 #[.pointer (some ⟨b,0,none⟩),.int .i64 v] w (EQ w0 x b R p1 p2 n1 n2 c1 c2 (L++qs v) (m+11)):=by
 have hl:=h.len;refine(zgt h.wr h.low.size hv.1 hv.2 I).mono λ_ _ k=>⟨k.1,h.next k.2.1 k.2.2 (jA ?_)⟩
 unfold zig;split<;>omega
def PL(h:ES w0 x b R p1 p2 n1 n2 c1 c2 L m w){f:Bool}(hm:m<=60000):Calls prog 84 #[.pointer (some ⟨b,0,none⟩),.bool f] w (EQ w0 x b R p1 p2 n1 n2 c1 c2 (L++zT f) (m+1)):=by
 have hl:=h.len;exact(zed h.wr h.low.size I).mono λ_ _ k=>⟨k.1,h.next k.2.1 k.2.2 (by rw[Ya];exact Lh _)⟩
def uh(h:ES w0 x b R p1 p2 n1 n2 c1 c2 L m w){s:Ee}(hs:s.size<=1000)(hm:m<=60000):Calls prog 81 #[.pointer (some ⟨b,0,none⟩),.string s] w (EQ w0 x b R p1 p2 n1 n2 c1 c2 (L++zm (zG s)) (m+1011)):=by
 have hl:=h.len;refine(zb3 h.wr h.low.size I).mono λ_ _ k=>⟨k.1,h.next k.2.1 k.2.2 ?_⟩
 unfold zm;rw[Lm,zR];have:=jA (v:=s.size) I;omega
def PK(h:ES w0 x b R p1 p2 n1 n2 c1 c2 L m w){o:En}(hn:Qd w0.heap.size w p n (zI o))(d:qj o<=63)(hm:m<=60000):Calls prog 85 #[.pointer (some ⟨b,0,none⟩),.slice p n c] w (EQ w0 x b R p1 p2 n1 n2 c1 c2 (L++numbers (zI o)) (m+704)):=by
 have hl:=h.len
 have hb:∀y∈zI o,y<256:=by
  cases o with
  | none=>intro y a;cases a
  | some s=>exact @ZF unk0 s
 refine(zdQ h.wr h.low.size hn (λy a=>by have:=hb y a;omega) I).mono λ_ _ k=>⟨k.1,h.next k.2.1 k.2.2 ?_⟩
 unfold numbers;rw[Lm];have h1:=jA (v:=(zI o).length) (by have:(zI o).length<=63:=d;omega);have h2:=VZ (l:=zI o) λy a=>by have:=hb y a;omega
 have:(zI o).length<=63:=d;omega
end
def zf7{w0:Ea}{x b:Nat}{R:zy}{c1:Nat}{L:Eb}(h:ES w0 x b R p1 p2 n1 n2 c1 c2 L m w)(e:L=R.qC.bytes)(hm:m<=60000):Calls prog 39 #[.pointer (some ⟨b,0,none⟩)] w (zeS w0 R):=by
 subst e;refine(RD.zca h.wr (nM R) (Lj h.len I)).mono λe w2 k=>?_;obtain⟨p,c,rfl,g,_,hi,hb⟩:=k;obtain⟨b',a,rfl,_⟩:=hi.2 (X9 R);have d:Grown w0 w2:=⟨λc hc=>by rw[g.old c (LK hc h.low.size),h.low.old c hc],Lj h.low.size g.size,g.tape.trans h.low.tape,g.os.trans h.low.os,g.output.trans h.low.output⟩
 exact⟨b',a,c,rfl,hi,d,Lj h.low.size (hb _ rfl),tM hi (X9 R)⟩
def Db(R:zy):[]++put R.number.toNat++put R.version.toNat++zm (zG R.tenant)++qs R.session++zm (zG R.action)++zm (zG R.path)++put R.day.toNat++zT R.granted++put R.user.toNat++numbers (zI R.up)++numbers (zI R.down)++zm (zG R.does)++zm (zG R.at_)++zT R.deep=R.qC.bytes:=by
 simp only[nil_append,Ae];rfl
def Tu{k:Int}(h:v<=k)(a:k<9223372036854775808):v<9223372036854775808:=by omega
def u64_i(a:0<=v)(h1:v<9223372036854775808):IntKind.u64.wrap v=v:=IntWalk.u64_in _ I
def oR{R:zy}{c1:Nat}(hg:WideB R)(h1:AtS w (.slice p1 n1 c1) R.up)(h2:AtS w (.slice p2 n2 c2) R.down):Calls prog 32 #[Zy R p1 p2 n1 n2 c1 c2] w (zeS w R):=by
 have HG:=A hg;have HU:=A h1;have HD:=A h2;have hw1:=u64_i hg.number.1 (by have:=hg.number.2;omega);have hw2:=u64_i hg.version.1 (by have:=hg.version.2;omega);have hw3:=u64_i hg.day.1 (by have:=hg.day.2;omega);have hw4:=u64_i hg.user.1 (by have:=hg.user.2;omega);clear hg h1 h2;go_enter func32,ntmps32
 go_wp2_with(first
  | (go_at_call 35;(with_reducible refine RD.M0.mono ?_);rintro e w0 ⟨b,rfl,k1,k2⟩;have E0:=A (zej rfl HG.o HU.o HD.o k1 k2);have x0:=E0.o.box.1;clear k1 k2)
  | (go_at_call 36;(with_reducible refine(oT E0.o HG.o.number.1 (Tu HG.o.number.2 C) C).mono ?_);rintro e w1 ⟨rfl,k1⟩;have E1:=A k1;have x1:=E1.o.box.2.1;clear k1 x0)
  | (go_at_call 36;(with_reducible refine(oT E1.o HG.o.version.1 (Tu HG.o.version.2 C) C).mono ?_);rintro e w2 ⟨rfl,k1⟩;have E2:=A k1;have x2:=E2.o.box.2.2.1;clear k1 x1)
  | (go_at_call 81;(with_reducible refine(uh E2.o HG.o.tenant C).mono ?_);rintro e w3 ⟨rfl,k1⟩;have E3:=A k1;have x3:=E3.o.box.2.2.2.1;clear k1 x2)
  | (go_at_call 83;(with_reducible refine(zgR E3.o HG.o.session C).mono ?_);rintro e w4 ⟨rfl,k1⟩;have E4:=A k1;have x4:=E4.o.box.2.2.2.2.1;clear k1 x3)
  | (go_at_call 81;(with_reducible refine(uh E4.o HG.o.action C).mono ?_);rintro e w5 ⟨rfl,k1⟩;have E5:=A k1;have x5:=E5.o.box.2.2.2.2.2.1;clear k1 x4)
  | (go_at_call 81;(with_reducible refine(uh E5.o HG.o.path C).mono ?_);rintro e w6 ⟨rfl,k1⟩;have E6:=A k1;have x6:=E6.o.box.2.2.2.2.2.2.1;clear k1 x5)
  | (go_at_call 36;(with_reducible refine(oT E6.o HG.o.day.1 (Tu HG.o.day.2 C) C).mono ?_);rintro e w7 ⟨rfl,k1⟩;have E7:=A k1;have x7:=E7.o.box.2.2.2.2.2.2.2.1;clear k1 x6)
  | (go_at_call 84;(with_reducible refine(PL E7.o  C).mono ?_);rintro e w8 ⟨rfl,k1⟩;have E8:=A k1;have x8:=E8.o.box.2.2.2.2.2.2.2.2.1;clear k1 x7)
  | (go_at_call 36;(with_reducible refine(oT E8.o HG.o.user.1 (Tu HG.o.user.2 C) C).mono ?_);rintro e w9 ⟨rfl,k1⟩;have E9:=A k1;have x9:=E9.o.box.2.2.2.2.2.2.2.2.2.1;clear k1 x8)
  | (go_at_call 85;(with_reducible refine(PK E9.o E9.o.up HG.o.up C).mono ?_);rintro e w10 ⟨rfl,k1⟩;have E10:=A k1;have x10:=E10.o.box.2.2.2.2.2.2.2.2.2.2.1;clear k1 x9)
  | (go_at_call 85;(with_reducible refine(PK E10.o E10.o.down HG.o.down C).mono ?_);rintro e w11 ⟨rfl,k1⟩;have E11:=A k1;have x11:=E11.o.box.2.2.2.2.2.2.2.2.2.2.2.1;clear k1 x10)
  | (go_at_call 81;(with_reducible refine(uh E11.o HG.o.does C).mono ?_);rintro e w12 ⟨rfl,k1⟩;have E12:=A k1;have x12:=E12.o.box.2.2.2.2.2.2.2.2.2.2.2.2.1;clear k1 x11)
  | (go_at_call 81;(with_reducible refine(uh E12.o HG.o.at_ C).mono ?_);rintro e w13 ⟨rfl,k1⟩;have E13:=A k1;have x13:=E13.o.box.2.2.2.2.2.2.2.2.2.2.2.2.2;clear k1 x12)
  | (go_at_call 84;(with_reducible refine(PL E13.o  C).mono ?_);rintro e w14 ⟨rfl,k1⟩;have E14:=A k1;clear k1 x13)
  | (go_at_call 39;(with_reducible refine(zf7 E14.o (Db R) C).mono ?_);rintro e w15 ⟨b2,o2,c2,rfl,k1,k2,k3,k4⟩;have K:=A (And.intro k1 (And.intro k2 (And.intro k3 k4)));clear k1 k2 k3 k4))
 go_ret
 obtain⟨k1,k2,k3,k4⟩:=K.o;exact⟨_,_,_,rfl,k1,(zc _ _).trans' k2,Lj (zc w _).size k3,k4⟩
end KW
end
section
open TR
open Go.AuditPlain(put)
namespace RD
def X4{v:Nat}{s s':S}(h:stU m s=(v,s'))(ok:s'.2=true):s.2=true:=by
 unfold stU at h;split at h
 .assumption
 .cases h;cases ok
def X5{v:Eb}{s s':S}(h:stB m s=(v,s'))(ok:s'.2=true):s.2=true:=by
 unfold stB at h;split at h
 .assumption
 .cases h;cases ok
def ID{s s':S}(h:stI s=(v,s'))(ok:s'.2=true):s.2=true:=by
 unfold stI at h;split at h
 .assumption
 .cases h;cases ok
def rO{v:Bool}{s s':S}(h:stF s=(v,s'))(ok:s'.2=true):s.2=true:=by
 unfold stF at h;split at h
 .assumption
 .cases h;cases ok
def UB:∀(n:Nat) {l:Eb}{s s':S},itL n s=(l,s')->s'.2=true->s.2=true
 | 0,_,_,_,h,ok=>by cases h;exact ok
 | n+1,l,s,s',h,ok=>by
  have e:itL (n+1) s=((stU 63 s).1::(itL n (stU 63 s).2).1,(itL n (stU 63 s).2).2):=rfl;rw[e]at h;cases h;exact X4 (m:=63) rfl (UB n rfl ok)
def rN{s s':S}(h:stL s=(l,s'))(ok:s'.2=true):s.2=true:=by
 unfold stL at h;exact X4 (m:=63) rfl (UB _ h ok)
def Lt(s:S):Prop:=∀y∈s.1,y<256
def ZW{A:Eb}{s s':S}(h:Lt s)(e:s.1=A++s'.1):Lt s':=λy a=>h y (by rw[e];exact Ay _ a)
def Xi{v:Nat}{s s':S}(h:stU m s=(v,s'))(ok:s'.2=true)(hl:Lt s):s.1=put v++s'.1:=by
 unfold stU at h;split at h
 .split at h
  .rename_i a;cases h;exact(RP.uint_can hl a).1
  .cases h;cases ok
 .cases h;cases ok
def WW{v:Eb}{s s':S}(h:stB m s=(v,s'))(ok:s'.2=true)(hl:Lt s):s.1=zm v++s'.1:=by
 unfold stB at h;split at h
 .split at h
  .rename_i a;cases h;exact(RP.Hf hl a).1
  .cases h;cases ok
 .cases h;cases ok
def SB{s s':S}(h:stI s=(v,s'))(ok:s'.2=true)(hl:Lt s):s.1=qs v++s'.1:=by
 unfold stI at h;split at h
 .split at h
  .rename_i a;cases h;exact RP.TJ hl a
  .cases h;cases ok
 .cases h;cases ok
def BU{v:Bool}{s s':S}(h:stF s=(v,s'))(ok:s'.2=true):s.1=zT v++s'.1:=by
 unfold stF at h;split at h
 .split at h
  .rename_i a;cases h;exact RP.Px a
  .cases h;cases ok
 .cases h;cases ok
def CR:∀(n:Nat) {l:Eb}{s s':S},itL n s=(l,s')->s'.2=true->Lt s->s.1=AuditPlain.qf l++s'.1
 | 0,_,_,_,h,_,_=>by cases h;rfl
 | n+1,l,s,s',h,ok,hl=>by
  have e:itL (n+1) s=((stU 63 s).1::(itL n (stU 63 s).2).1,(itL n (stU 63 s).2).2):=rfl;rw[e]at h;cases h;have h1:=Xi (m:=63) (v:=(stU 63 s).1) (s:=s) (s':=(stU 63 s).2) rfl (UB n rfl ok) hl;have h2:=CR n (s:=(stU 63 s).2) rfl ok (ZW hl h1);rw[h1,h2];unfold AuditPlain.qf;rw[flatMap_cons,Ae]
def BR{s s':S}(h:stL s=(l,s')):l.length=(stU 63 s).1:=by
 unfold stL at h;have:=oA (stU 63 s).1 (stU 63 s).2;rw[h]at this;exact this
def BS{s s':S}(h:stL s=(l,s')):l.length<=63:=by
 rw[BR h];exact X3 (s:=s) (s':=(stU 63 s).2) rfl
def BT{s s':S}(h:stL s=(l,s'))(ok:s'.2=true)(hl:Lt s):s.1=numbers l++s'.1:=by
 have e:=BR h;unfold stL at h;have h1:=Xi (m:=63) (v:=(stU 63 s).1) (s:=s) (s':=(stU 63 s).2) rfl (UB _ h ok) hl;have h2:=CR _ h ok (ZW hl h1);unfold numbers;rw[e,h1,h2,Ae]
def BV{v:Eb}{s s':S}(h:stB m s=(v,s')):v.length<=m:=by
 unfold stB at h;split at h
 .split at h
  .rename_i a;cases h;unfold jF at a;split at a
   .cases a
   .split at a
    .rename_i hm;cases a;rw[Ar];omega
    .cases a
  .cases h;exact zero_le _
 .cases h;exact zero_le _
def au{v:Eb}{s s':S}(h:stB m s=(v,s'))(hl:Lt s):∀y∈v,y<256:=by
 unfold stB at h;split at h
 .split at h
  .rename_i a;cases h;unfold jF at a;split at a
   .cases a
   .split at a
    .cases a;exact λy b=>hl y (mem_of_mem_drop (mem_of_mem_take b))
    .cases a
  .cases h;intro y b;cases b
 .cases h;intro y b;cases b
def zcU{s s':S}(h:stI s=(v,s')):-9223372036854775808<=v/\v<=9223372036854775807:=by
 unfold stI at h;split at h
 .split at h
  .rename_i a;cases h;unfold bc at a;split at a
   .cases a
   .rename_i u n hn;cases a;have:=wu _ _ _ hn;unfold unzig;split<;>omega
  .cases h;omega
 .cases h;omega
def Vg(h:∀x∈l,x<=63):zI (fe l)=l:=by
 unfold fe;split
 .rename_i e;rw[e];rfl
 .exact ZE λx hx=>by have:=h x hx;omega
def sJ{s:Ee}(h:fe l=some s):0<s.size:=by
 unfold fe at h;split at h
 .cases h
 .rename_i hn;cases h;rw[@qA unk0];exact AV.2 hn
def FF{N:Nat}{M:Eb}{R:zy}{ok:Bool}(hN:N<=1000)(h:pS N M R ok):KW.JZ R:=by
 obtain⟨v1,v2,v3,v4,T,Q,k,P,j,v10,v11,v12,n,l,s1,s2,s3,s4,s5,s6,s7,s8,s9,s10,s11,s12,s13,s14,H,y,x,w,u,t,r,e8,p,c,a,i,g,z,rfl,_⟩:=h.ex;have u1:=X3 H;have u2:=X3 y;have u7:=X3 r;have u9:=X3 p
 have b:∀ {m:Nat}{v:Eb}{s s':S},stB N s=(v,s')->(str v).size<=1000:=λ{m v s s'} h=>by
  have h:=BV h;have e:=@qA unk0 v;omega
 have f:qj (fe v10)<=63:=by unfold qj;rw[Vg (ar c)];exact BS c
 have d:qj (fe v11)<=63:=by unfold qj;rw[Vg (ar a)];exact BS a
 exact⟨⟨⟨by show(0:Int)<=((v1:Nat):Int);omega,by show((v1:Nat):Int)<=4000;omega⟩,⟨by show(0:Int)<=((v2:Nat):Int);omega,by show((v2:Nat):Int)<=2147483647;omega⟩,b (m:=0) x,zcU w,b (m:=0) u,b (m:=0) t,⟨by show(0:Int)<=((k:Nat):Int);omega,by show((k:Nat):Int)<=30000;omega⟩,⟨by show(0:Int)<=((j:Nat):Int);omega,by show((j:Nat):Int)<=256;omega⟩,f,d,b (m:=0) i,b (m:=0) g⟩,λs h=>sJ h,λs h=>sJ h⟩
def vO{N:Nat}{M:Eb}{R:zy}(hl:∀y∈M,y<256)(h:pS N M R true):R.qC.bytes=M:=by
 obtain⟨v1,v2,v3,v4,v5,v6,v7,v8,v9,v10,v11,v12,i,g,s1,s2,s3,s4,s5,s6,s7,s8,s9,s10,s11,s12,s13,s14,e1,e2,T,e4,Q,P,e7,e8,e9,f,e,d,c,u,rfl,H⟩:=h.ex
 have a:s14.2=true/\s14.1.isEmpty=true:=by
  have:=H.symm;simpa using this
 have j:=a.1;have k:=rO u j;have l:=X5 c k;have m:=X5 d l;have n:=rN e m;have o9:=rN f n;have o8:=X4 e9 o9;have o7:=rO e8 o8;have o6:=X4 e7 o7;have o5:=X5 P o6;have o4:=X5 Q o5;have o3:=ID e4 o4;have o2:=X5 T o3;have o1:=X4 e2 o2;have l0:Lt (M,true):=hl;have c1:=Xi e1 o1 l0;have l1:=ZW l0 c1;have c2:=Xi e2 o2 l1;have l2:=ZW l1 c2;have c3:=WW T o3 l2;have l3:=ZW l2 c3;have c4:=SB e4 o4 l3;have z:=ZW l3 c4;have c5:=WW Q o5 z;have x:=ZW z c5;have c6:=WW P o6 x;have l6:=ZW x c6;have c7:=Xi e7 o7 l6;have l7:=ZW l6 c7;have c8:=BU e8 o8;have l8:=ZW l7 c8;have c9:=Xi e9 o9 l8;have l9:=ZW l8 c9;have c10:=BT f n l9;have r:=ZW l9 c10;have w:=BT e m r;have b:=ZW r w;have v:=WW d l b;have p:=ZW b v;have c13:=WW c k p;have c14:=BU u j;have t:s14.1=[]:=List.isEmpty_iff.1 a.2
 have hM:M=put v1++(put v2++(zm v3++(qs v4++(zm v5++(zm v6++(put v7++(zT v8++(put v9++(numbers v10++(numbers v11++(zm v12++(zm i++zT g)))))))))))):=by
  have c1:M=put v1++s1.1:=c1;rw[c1,c2,c3,c4,c5,c6,c7,c8,c9,c10,w,v,c13,c14,t,AJ]
 rw[hM]
 show put ((v1:Nat):Int).toNat++(put ((v2:Nat):Int).toNat++(zm (zG (str v3))++(qs v4++(zm (zG (str v5))++(zm (zG (str v6))++(put ((v7:Nat):Int).toNat++(zT v8 ++
  (put ((v9:Nat):Int).toNat++(numbers (zI (fe v10))++(numbers (zI (fe v11))++(zm (zG (str v12))++(zm (zG (str i))++zT g))))))))))))=_
 rw[toNat_natCast,toNat_natCast,toNat_natCast,toNat_natCast,ZE (au T l2),ZE (au Q z),ZE (au P x),ZE (au d b),ZE (au c p),Vg (ar f),Vg (ar e)]
end RD
end
section
open TR
namespace GT
def bO(vs:Ec):Prop:=∀v∈vs,∃k:Int,v = .int .i64 k
structure Vz(w:Ea)(p:Ed)(n:Nat)(us:Ec):Prop where
 len:us.length=n
 few:n<=1000
 ints:bO us
 cell:0<n->∃b o,p=some ⟨b,o,none⟩/\∀j u,us[j]?=some u->w.cell? ⟨b,o+j,none⟩=some u
def Vz.grown(h:Vz w p n us)(g:Grown w w2):Vz w2 p n us:=
 ⟨h.len,h.few,h.ints,λhn=>by obtain⟨b,o,e,hc⟩:=h.cell hn;exact⟨b,o,e,λj u a=>RD.zz (hc j u a) g⟩⟩
def Vz.at(h:Vz w p n us){j:Nat}(a:j<n):∃(b o:Nat) (k:Int),p=some ⟨b,o,none⟩/\w.cell? ⟨b,o+j,none⟩=some (.int .i64 k):=by
 obtain⟨b,o,e,hc⟩:=h.cell I;have hl:us[j]?=some (us[j]'(by rw[h.len];exact a)):=Ly _;obtain⟨k,c⟩:=h.ints _ (AL (by rw[h.len];exact a));rw[c]at hl;exact⟨b,o,k,e,hc j _ hl⟩
def dz{o:En}(h:AtS w (.slice p n c) o)(few:n<=1000):∃us,Vz w p n us:=by
 have k:=KW.Vb h few;refine⟨(zI o).map λx=>.int .i64 (x:Nat),by rw[Ls];exact k.len,few,λv hv=>?_,λhn=>?_⟩
 .obtain⟨x,_,rfl⟩:=Lv.1 hv;exact⟨_,rfl⟩
 .obtain⟨b,q,e,_⟩:=k.cell 0 hn;refine⟨b,q,e,λj u a=>?_⟩;rw[Lw]at a;obtain⟨x,hx,rfl⟩:=LU.1 a;obtain⟨f,q2,d,_,hc⟩:=k.cell j (by rw[<- k.len];exact(LL.1 hx).1);rw[e]at d;cases d;rw[Aq,hx]at hc;exact hc
def zcI(w:Ea)(e:Ew)(w2:Ea):Prop:=∃b:Bool,e = .returned (.bool b)/\w=w2
def Mz{k:Int}:Calls prog 80 #[.int .i64 k] w (zcI w):=by
 cases h1:decide (k<0) with
 | true=>
  go_enter func80,ntmps80
  go_wp2
  go_ret
  exact⟨_,rfl,rfl⟩
 | false=>
  cases h2:decide (63<k) with
  | true=>
   go_enter func80,ntmps80
   go_wp2
   go_ret
   exact⟨_,rfl,rfl⟩
  | false=>
   go_enter func80,ntmps80
   go_wp2
   go_ret
   exact⟨_,rfl,rfl⟩
def zkQ(w:Ea)(e:Ew)(w2:Ea):Prop:=∃k:Int,e = .returned (.int .i64 k)/\w=w2
def TN(h:Vz w p n us)(few:n<=100000):Calls prog 136 #[.slice p n c,.func (.func 80) #[] #[]] w (zkQ w):=by
 have H:=A h;have F:=A few;clear h few;go_enter func136,ntmps136;go_wp2
 go_loopg [8] n (λg i wr=>wr=w/\∃j:Nat,j+g=n/\i = .int .i64 j)
 case atStart=>exact⟨rfl,0,I,rfl⟩
 case round=>
  obtain⟨rfl,j,hj,rfl⟩:=hrel
  cases gk with
  | zero=>
   have hjm:¬((j:Int)<(n:Int)):=by omega
   go_wp2
   go_ret
   exact⟨_,rfl,rfl⟩
  | succ g=>
   have hjm:(j:Int)<(n:Int):=by omega
   obtain⟨b,o,k,rfl,hc⟩:=H.o.at (j:=j) I;have hw64:RowKit.wrap64 ((j:Int)+1)=(j:Int)+1:=by unfold RowKit.wrap64;have:=F.o;omega
   go_wp2_with(go_at_call 80;(with_reducible refine Mz.mono ?_);rintro e w3 ⟨b3,rfl,rfl⟩;cases b3)
   .go_roundg g
    case measure=>omega
    case rel=>exact⟨rfl,j+1,I,(by first|rfl|(rw[hw64];rfl))⟩
   .go_ret
    exact⟨_,rfl,rfl⟩
def XE(h:Vz w p n us)(few:n<=100000):Calls prog 78 #[.slice p n c,.func (.func 80) #[] #[]] w (zcI w):=by
 have H:=A h;have F:=A few;clear h few;go_enter func78,ntmps78;go_wp2_with(go_at_call 136;(with_reducible refine(TN H.o F.o).mono ?_);rintro e w3 ⟨k3,rfl,rfl⟩)
 all_goals(go_ret;exact⟨_,rfl,rfl⟩)
end GT
end
section
open TR
namespace GT
def RY(w:Ea)(e:Ew)(w2:Ea):Prop:=∃v,e = .returned v/\Grown w w2/\yq 3 1 w.heap.size w2 v 0 []
def Gk:Calls prog 137 #[.slice none 0 0,.int .i64 0] w (RY w):=by
 go_enter func137,ntmps137
 go_wp2
 go_ret
 exact⟨_,rfl,RD.qP _,rfl,.inl ⟨rfl,rfl⟩⟩
def Gl(hn:0<n)(few:n<=1000):Calls prog 137 #[.slice none 0 0,.int .i64 (n:Nat)] w (RY w):=by
 obtain⟨i,z,hi,k1,k2,hz,hzs⟩:=ty3.inf;have hold:(Builtin.firstCells i.size 0 (.slice none 0 0)).run prog w.drew = .ok #[] w.drew:=run_firstCells_none w.drew i.size 0 0 0;have hck:n*i.bytes<=1000000:=Nat.mul_le_mul few k2;have hck2:(0+n)*i.bytes<=140737488355328:=by rw[Lz];omega
 have hrz:∀ty,(Builtin.append_ #[36,3] ty #[.slice none 0 0,.int .i64 (n:Nat)]).run prog w = .ok (.slice (some ⟨w.heap.size,0,none⟩) n (grownCap w (0+n) 0 3)) (w.drew.alloc (.cells (#[]++Builtin.zeroCells z.cells n++Builtin.zeroCells z.cells (grownCap w (0+n) 0 3-(0+n))) 3)):=λty=>by
  have h:=run_append_grow_zeros w 36 3 ty 3 i z .i64 .i64 ty3.u underlying3 hi hz none 0 0 [] hold n I (by rw[k1];decide) I I I (growslice_fits I hck2);rw[show 0+n=n by omega]at h ⊢;exact h
 have hGn:n<=grownCap w (0+n) 0 3:=by have:=grownCap_ge w (0+n) 0 3;omega
 have hG63:grownCap w (0+n) 0 3<=9223372036854775807:=by
  have:=grownCap_le_maxLen w (0+n) 0 3 (by unfold maxLen;omega);unfold maxLen at this;omega
 have hzl:∀k,(Builtin.zeroCells z.cells k).size=k:=λk=>by rw[size_zeroCells,hzs,Ak]
 obtain⟨G,hG⟩:∃G,G=grownCap w (0+n) 0 3:=⟨_,rfl⟩
 obtain⟨Z,hZ⟩:∃Z,Z=(#[]++Builtin.zeroCells z.cells n++Builtin.zeroCells z.cells (grownCap w (0+n) 0 3-(0+n))):=⟨_,rfl⟩
 have hZs:Z.size=G:=by
  rw[hZ,hG,Array.size_append,Array.size_append,hzl,hzl,AQ,length_nil];rw[<- hG]at hGn ⊢;omega
 rw[<- hZ]at hrz;rw[<- hG]at hrz hGn hG63;have HZ:=A hZs;have hn0:(n:Int) > 0:=by omega
 have h3:RowKit.wrap64 ((n:Int)-0)=(n:Int):=by unfold RowKit.wrap64;omega
 clear hold hck hG hZ hZs hck2 hzl;go_enter func137,ntmps137;go_wp2_with(at_builtin;refine wpList_append_run _ rfl _ _ _ _ rfl _ _ rfl rfl _ _ (hrz _) ?_)
 all_goals go_ret
 refine⟨_,rfl,(zc _ _).trans' (zM _),rfl,.inr ⟨(w.heap.size,0,G),?_,⟨Z,(0,0),heap_alloc_new w _,?_,λi _ h=>I,Nat.dvd_zero _,λj hj=>Ld hj (not_lt_zero _)⟩,Lh _⟩⟩
 .rw[Lz];rfl
 .rw[HZ.o,ty3.ts];show 0+0+G*1<=G;omega
def Gm(few:n<=1000):Calls prog 137 #[.slice none 0 0,.int .i64 (n:Nat)] w (RY w):=by
 by_cases h:n=0
 .subst h;exact Gk
 .exact Gl I few
def uN{lo:Nat}{v:Ei}(h:yq 3 1 lo w v n a)(ty:Eg)(p:Ed)(c:Nat):(Builtin.append_ #[36,36] ty #[v,.slice p 0 c]).run prog w = .ok v w:=by
 obtain⟨i,_,hi,_⟩:=ty3.inf;rcases h.ex with⟨_,rfl⟩|⟨x,rfl,_,_⟩
 .exact run_append_nothing w 36 36 ty 3 i ty3.u hi none 0 0 (Lh _) _ (KW.nB ty3.u p c w)
 .exact run_append_nothing w 36 36 ty 3 i ty3.u hi _ n _ (Al _ _) _ (KW.nB ty3.u p c w)
structure RM(w:Ea)(q:Nat)(p1 p2:Ed)(n1 c1 n2 c2:Nat)(us1 us2:Ec):Prop where
 z1:w.cell? ⟨q,0,none⟩=some (.slice p1 n1 c1)
 z2:w.cell? ⟨q,1,none⟩=some (.slice p2 n2 c2)
 l1:Vz w p1 n1 us1
 l2:Vz w p2 n2 us2
 f1:n1<=100
 f2:n2<=100
def RM.grown{q:Nat}{c1:Nat}{b:Ec}(h:RM w q p1 p2 n1 c1 n2 c2 b a)(g:Grown w w2):RM w2 q p1 p2 n1 c1 n2 c2 b a:=
 ⟨RD.zz h.z1 g,RD.zz h.z2 g,h.l1.grown g,h.l2.grown g,h.f1,h.f2⟩
def QS(n1 n2 j:Nat):Nat:=if j=0 then 0 else if j=1 then n1 else n1+n2
def zkW(w:Ea)(e:Ew)(w2:Ea):Prop:=∃p n c us,e = .returned (.slice p n c)/\Grown w w2/\Vz w2 p n us
structure RT(w0 w:Ea)(v:Ei)(m:Nat):Prop where
 ex:∃vs,yq 3 1 w0.heap.size w v m vs/\bO vs
 g:Grown w0 w
def zbO{b:Ec}(ha:bO a)(hb:bO b):bO (a++b):=λv hv=>by
 rcases LJ.1 hv with h|h
 .exact ha v h
 .exact hb v h
def zbM(ha:bO a):∀u∈a,u.oneCell'=true:=λu b=>by
 obtain⟨k,rfl⟩:=ha u b;rfl
def Bw{f:Ea}{ops:Ep}{rest:Er}{o:Oper}{a:Act}{Q:Eo}(s x:Ev){k:Nat}(h:o.guard=none)(hop:o.op=Op.call { callee:=Callee.builtin Builtin.append,args:=#[s,x],argTypes:=#[36,36] })
  (hN:RT f w (a.eval s) m) (hL:Vz w p n us) (few:m+n<=100000) (hx:a.eval x = .slice p n c) (hm:m+n=k) (hK:∀d w',RT f w' d k->wpList prog ops Q rest (a.put o.dst d) w'):wpList prog ops Q (o::rest) a w:=by
 subst hm;obtain⟨t,e,ha⟩:=id hN.ex;by_cases i:n=0
 .subst i;exact wpList_append_run _ h _ _ _ _ hop _ _ rfl hx _ _ (uN e _ _ _) (hK _ _ hN)
 .obtain⟨b,q,rfl,hc⟩:=hL.cell I;exact Se w ty3 s x h hop e few (AZ i) hN.g.size hx (by rw[hL.len,Ak]) (λj u r=>by rw[Addr.add_lit];exact hc j u r) (zbM hL.ints) λd w' l _ k3=>hK d w' ⟨⟨_,l,zbO ha hL.ints⟩,kI hN.g e k3⟩
def zjs(h:n1<=100):QS n1 n2 0+n1<=100000:=by show 0+n1<=100000;omega
def zgM(h:n1<=100)(k:n2<=100):QS n1 n2 1+n2<=100000:=by show n1+n2<=100000;omega
def zcR(n1 n2:Nat):QS n1 n2 0+n1=QS n1 n2 1:=by simp[QS]
def ziL(n1 n2:Nat):QS n1 n2 1+n2=QS n1 n2 2:=by simp[QS]
def Tj{d:Ea}{v:Ei}(h:RT d w v m)(few:m<=1000):∃p c us,v = .slice p m c/\Vz w p m us:=by
 obtain⟨⟨b,a,ha⟩,_⟩:=h;rcases a.ex with⟨rfl,rfl⟩|⟨x,rfl,hx,_⟩
 .exact⟨none,0,b,rfl,by rw[a.len],few,ha,λh=>Ld h (Nat.lt_irrefl _)⟩
 .exact⟨_,_,b,rfl,by rw[a.len,Ak],few,ha,λ_=>⟨_,_,rfl,λj u e=>TR.cell_of_row hx e⟩⟩
def Yj{q:Nat}{c1:Nat}{us1 us2:Ec}(h:RM w q p1 p2 n1 c1 n2 c2 us1 us2):Calls prog 79 #[.slice (some ⟨q,0,none⟩) 2 c] w (zkW w):=by
 have H:=A h;have hf1:=h.f1;have hf2:=h.f2;clear h;go_enter func79,ntmps79;go_wp2
 go_loopg [3,11] 2 (λg s i wr=>wr=w/\∃j:Nat,j+g=2/\i = .int .i64 j/\s = .int .i64 (QS n1 n2 j:Nat))
 case atStart=>exact⟨rfl,0,I,rfl,rfl⟩
 case round=>
  obtain⟨rfl,j,hj,rfl,rfl⟩:=hrel
  cases gk with
  | zero=>
   obtain rfl:j=2:=by omega
   have hs:QS n1 n2 2=n1+n2:=rfl;rw[hs];obtain⟨m,hm⟩:∃m,m=n1+n2:=⟨_,rfl⟩
   rw[<- hm];have HM:=A hm;clear hs hm;go_wp2_with(go_at_call 137;(with_reducible refine(Gm (n:=m) (by have:=HM.o;omega)).mono ?_);rintro e w1 ⟨v1,rfl,k1,k2⟩;have N1:RowKit.Hid (RT wr w1 v1 (QS n1 n2 0)):=A ⟨⟨[],k2,λv hv=>by cases hv⟩,k1⟩;clear k1 k2);go_loopg [6,27] 2 (λg s i wx=>∃j:Nat,j+g=2/\i = .int .i64 j/\RT wr wx s (QS n1 n2 j))
   case atStart=>exact⟨0,I,rfl,N1.o⟩
   case round=>
    obtain⟨j2,hj2,rfl,hN⟩:=hrel;have HN:=A hN;have H2:=A (H.o.grown hN.g);clear hN N1
    cases gk with
    | zero=>
     obtain rfl:j2=2:=by omega
     have hm2:QS n1 n2 2<=1000:=by show n1+n2<=1000;omega
     obtain⟨p3,c3,us3,rfl,h3⟩:=Tj HN.o hm2;have H3:=A h3;clear h3 hm2;go_wp2;go_ret
     exact⟨_,_,_,_,rfl,HN.o.g,H3.o⟩
    | succ k=>
     have hjm:(j2:Int)<(2:Int):=by omega
     have hj01:j2=0\/j2=1:=by omega
     rcases hj01 with rfl|rfl
     .have z1:=H2.o.z1;go_wp2_with(at_builtin;refine Bw _ _ rfl rfl HN.o H2.o.l1 (zjs hf1) rfl (zcR n1 n2) ?_;intro v' w' k1;have N2:=A k1;clear k1)
      go_roundg k
      case measure=>omega
      case rel=>exact⟨1,I,rfl,N2.o⟩
     .have z2:=H2.o.z2;go_wp2_with(at_builtin;refine Bw _ _ rfl rfl HN.o H2.o.l2 (zgM hf1 hf2) rfl (ziL n1 n2) ?_;intro v' w' k1;have N2:=A k1;clear k1)
      go_roundg k
      case measure=>omega
      case rel=>exact⟨2,I,rfl,N2.o⟩
  | succ k=>
   have hjm:(j:Int)<(2:Int):=by omega
   have hj01:j=0\/j=1:=by omega
   rcases hj01 with rfl|rfl
   .have z1:=H.o.z1;have hs:QS n1 n2 0=0:=rfl;rw[hs];have hn0:¬((n1:Int)<0):=by omega
    have hw:RowKit.wrap64 ((0:Int)+(n1:Int))=(n1:Int):=by unfold RowKit.wrap64;omega
    go_wp2
    go_roundg k
    case measure=>omega
    case rel=>exact⟨rfl,1,I,rfl,by first|rfl|simp[QS,hw]|trace_state⟩
   .have z2:=H.o.z2;have hs:QS n1 n2 1=n1:=rfl;rw[hs];have hn0:¬((n1:Int)+(n2:Int)<0):=by omega
    have hw:RowKit.wrap64 ((n1:Int)+(n2:Int))=(n1:Int)+(n2:Int):=by unfold RowKit.wrap64;omega
    go_wp2
    go_roundg k
    case measure=>omega
    case rel=>exact⟨rfl,2,I,rfl,by first|rfl|simp[QS,hw]|trace_state⟩
end GT
end
section
open TR
open Go.AuditPlain(put)
namespace RD
def Mm(h:n<=8):put n=[n]:=Ui I
def NC(Rs:List zy)(a:Nat)(rest:Eb):Left Rs a rest 0=qO (Rs.take a)++rest:=by unfold Left;rw[drop_zero]
def sZ{R:zy}:∀ {Rs:List zy},R∈Rs->R.qC.bytes.length<=(qO Rs).length
 | _::Rs,h=>by
  rw[lL,Lm];rcases Lf.1 h with rfl|h
  .unfold zm;rw[Lm];omega
  .have:=sZ h;omega
def Vw{Rs:List zy}(acc:∀R∈Rs,RH.Acc R)(few:Rs.length<=8):(YB Rs).length<=800/\33<=(YB Rs).length:=by
 have:=Mf acc;unfold YB;rw[Lm,Lm,fT,Mm few];simp only[Am,length_nil];omega
section
variable{Rs:List zy}(hist:iZ Rs)(acc:∀R∈Rs,RH.Acc R)(few:Rs.length<=8)
include hist acc few
theorem fQ:YB Rs=put Rs.length++Left Rs Rs.length (Zf Rs) 0/\Inp Rs Rs.length (Zf Rs) (YB Rs).length true:=by
 have e:YB Rs=put Rs.length++Left Rs Rs.length (Zf Rs) 0:=by rw[NC,take_length];rfl
 have hl:=Vw acc few;refine⟨e,hist,acc,few,Lh _,by rw[<- e],I,λh=>I,λ_=>.inl ⟨rfl,rfl⟩,λR hR=>?_⟩;rw[take_length]at hR;have:=sZ hR;unfold YB;rw[Lm,Lm];omega
end
end RD
end
section
open TR
open Go.AuditPlain(put)
namespace RD
def MV(b:List zy):qO (b.map nr)=qO b:=by
 unfold qO;rw[List.flatMap_map];congr 1;funext R
 rw[MW]
section
variable{w0 wc w3 w w2:Ea}{t want back:Ei}{es fs bs:List Ent}{p:Addr}{N:Eb}
end
section
variable{w0 wc w3 w:Ea}{want:Ei}{a a2:Addr}{es fs bs:List Ent}{p:Addr}{N:Eb}{cs:Ec}
def zeI(b:List zy):YB b≠[]:=by
 unfold YB;intro h;exact eP _ (AW.1 h).1
def ij{B:Em}{t:Ei}(H:St B w0 w t want es fs):∀R∈es.map (·.1),RH.Acc R:=by
 intro R hR;rw[<- H.same]at hR;obtain⟨e,he,rfl⟩:=Lv.1 hR;exact H.acc e he
def C0{B:Em}{t:Ei}(H:St B w0 w t want es fs):iZ (es.map (·.1)):=by rw[<- H.same];exact H.hist
def tU(w:Ea)(q:Nat):Grown w (w.drewN q):=⟨λ_ _=>rfl,Lh _,rfl,rfl,rfl⟩
def gb{b o:Nat}(h:In w (some ⟨b,o,none⟩) N):∀j,j<N.length->w.cell? ⟨b,o+j,none⟩=some (.int .u8 (N.getD j 0:Nat)):=by
 intro j c;refine tN h j _ ?_;rw[Aq,Ly c];rfl
def zal{b o b':Nat}(h1:In w (some ⟨b,o,none⟩) N)(h2:In w (some ⟨b',n,none⟩) N)(hl:N.length<=100000):Calls prog 16 #[.slice (some ⟨b,o,none⟩) N.length c,.slice (some ⟨b',n,none⟩) N.length m] w λe w2=>e = .returned (.bool true)/\Grown w w2:=by
 refine(Go.Proofs.YtaffhpgaagnjfaaGreatDoor.eq6 N N b o c b' n m w I I (gb h1) (gb h2)).mono λe w2 k=>?_;obtain⟨rfl,q,rfl⟩:=k;exact⟨by rw[Lx rfl],tU w q⟩
end
end RD
end
section
open TR
open Go.AuditPlain(put)
namespace RD
def u16_nat{n:Int}(w:(Lit.int .u16 n).wf=true):∃m:Nat,n=(m:Nat)/\m<65536:=by
 have h1:IntKind.u16.min=0:=rfl;have h2:IntKind.u16.max=65535:=rfl;simp only[Lit.wf,Le,Lk,h1,h2]at w;exact⟨n.toNat,I,I⟩
end RD
end
end Go.AEv
