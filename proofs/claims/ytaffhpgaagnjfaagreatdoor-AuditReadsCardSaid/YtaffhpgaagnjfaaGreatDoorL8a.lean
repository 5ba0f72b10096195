/- Trails: L8a. Conditions: each theorem's. -/
import Derived.Test.YtaffhpgaagnjfaaGreatDoorH7x0
set_option linter.all false
open Go.Proofs.Tryz
open Go.Proofs
set_option maxHeartbeats 4000000
set_option maxRecDepth 100000
namespace Go.AEv
variable{us:Ec}{w:Ea}
open Go
open KT(zB)
section
open TR
namespace GT
def zez{v:Ei}{s:Ee}{lo:Nat}(a:us=(zG s).map λx=>Value.int .i64 (x:Nat))(h:yq 3 1 lo w v s.size us)(hs:0<s.size):AtS w v (some s):=by
 rcases h.ex with⟨f,_⟩|⟨x,e,⟨arr,fz,h1,h2,h3,d,c⟩,_⟩
 .omega
 .have hl:=h.len;rw[hl,ty3.ts]at h2;refine⟨(x.1,x.2.1,s.size+x.2.2),arr,fz,e,h1,Al _ _,by show x.2.1+(s.size+x.2.2)<=arr.size;omega,λi b hb=>?_,h3⟩;have hi:i<s.size:=(LO.1 hb).1;rw[c i (by rw[hl];omega),a,Lw,JC,hb];rfl
def zeW(w:Ea)(o:En)(e:Ew)(w2:Ea):Prop:=∃p n c,e = .returned (.slice p n c)/\Grown w w2/\AtS w2 (.slice p n c) o
def ph{b o:Nat}(h:∀j u,us[j]?=some u->w.cell? ⟨b,o+j,none⟩=some u)(a:Obj):∀j u,us[j]?=some u->(w.alloc a).cell? ((⟨b,o,none⟩:Addr).add j)=some u:=λj u c=>by
 rw[Addr.add_lit];exact RD.zz (h j u c) (zc _ _)
def zcc(w:Ea)(a:Ed)(l c:Nat):(binOp BinOp.eql 36 (.slice a l c) (.slice none 0 0)).run prog w = .ok (.bool a.isNone) w:=run_eql_slice_nil w 36 3 a l c ty3.u
def MZ(w:Ea)(a:Ed)(l c:Nat):(binOp BinOp.eql 93 (.slice a l c) (.slice none 0 0)).run prog w = .ok (.bool a.isNone) w:=run_eql_slice_nil w 93 42 a l c Fa.u
def zdI(w:Ea)(a:Ed)(l c:Nat):(binOp BinOp.eql 94 (.slice a l c) (.slice none 0 0)).run prog w = .ok (.bool a.isNone) w:=run_eql_slice_nil w 94 29 a l c ry.u
def Dl{p:Ed}{n c:Nat}{o:En}(h:AtS w (.slice p n c) o)(few:n<=1000)(hn:∀s,o=some s->0<s.size):Calls prog 65 #[.slice p n c] w (zeW w o):=by
 cases o with
 | none=>
  cases h;have hnil:=zcc;go_enter func65,ntmps65;go_wp2
  go_ret
  exact⟨none,0,0,rfl,RD.qP _,rfl⟩
 | some s=>
  have hs:=hn s rfl;have hN:=KW.Vb h few;have e:=fC h;have e2:qj (some s)=s.size:=zR s;rw[e2]at e;subst e;obtain⟨b,q,rfl,_⟩:=hN.cell 0 hs
  have hc:∀j u,((zG s).map λx=>Value.int .i64 (x:Nat))[j]?=some u->w.cell? ⟨b,q+j,none⟩=some u:=λj u hj=>by
   rw[Lw]at hj;obtain⟨x,hx,rfl⟩:=LU.1 hj;obtain⟨b2,q2,e2,_,hc⟩:=hN.cell j (by rw[<- zR];exact(LL.1 hx).1);cases e2;rw[Aq,show(zI (some s))[j]?=some x from hx]at hc;exact hc
  obtain⟨us,hus⟩:∃us,us=(zG s).map λx=>Value.int .i64 (x:Nat):=⟨_,rfl⟩
  rw[<- hus]at hc;have HU:=A hus;have HC:=A hc;have HS:=A (And.intro hs few);have hl:RowKit.Hid (us.length=s.size*1):=A (by rw[hus,Ls,zR,Ak]);have h1:RowKit.Hid (∀u∈us,u.oneCell'=true):=A (by rw[hus];intro u hu;obtain⟨x,_,rfl⟩:=Lv.1 hu;rfl);have HF:RowKit.Hid (s.size<=100000):=A I;clear h hn hs hN e2 hc hus few;have hnil:=zcc;go_enter func65,ntmps65;go_wp2_with(at_builtin;refine aj _ ty3 _ _ rfl rfl rfl HF.o HS.o.1 rfl hl.o (ph HC.o _) h1.o ?_;intro q' c' w' k1 k2;have K1:=A k1;have K2:=A k2;clear k1 k2)
  go_ret
  exact⟨_,_,_,rfl,(zc w _).trans' K2.o,zez HU.o K1.o HS.o.1⟩
def Br(et:Eg)(sz:Nat)(w:Ea)(n:Nat)(us:Ec)(e:Ew)(w2:Ea):Prop:=∃p c,e = .returned (.slice p n c)/\Grown w w2/\yq et sz w.heap.size w2 (.slice p n c) n us
def Dk{lo n:Nat}{p:Ed}{c:Nat}(h:yq 42 14 lo w (.slice p n c) n us)(few:n<=100000)(h1:∀u∈us,u.oneCell'=true)(hz:n=0->p=none/\c=0):Calls prog 33 #[.slice p n c] w (Br 42 14 w n us):=by
 rcases h.ex with⟨rfl,e⟩|⟨x,e,hx,_⟩
 .cases e;have hl:=h.len;have hu:us=[]:=Ax (by rw[hl,Nat.zero_mul]);have HU:=A hu;have hnil:=MZ;clear h few h1 hl hu hz;go_enter func33,ntmps33
  go_wp2
  go_ret
  exact⟨none,0,rfl,RD.qP _,by rw[HU.o];rfl,.inl ⟨rfl,rfl⟩⟩
 .simp only[Value.slice.injEq]at e;obtain⟨rfl,_,rfl⟩:=e;by_cases h0:n=0
  .exact Ld (hz h0).1 Oc
  .have HX:=A (λj u (hj:us[j]?=some u)=>TR.cell_of_row hx hj);have HL:=A h.len;have H1:=A h1;have HF:=A (And.intro few (AZ h0));have hnil:=MZ;clear h few h1 h0 hx hz;go_enter func33,ntmps33
   go_wp2_with(at_builtin;refine aj _ Fa _ _ rfl rfl rfl HF.o.1 HF.o.2 rfl HL.o (ph HX.o _) H1.o ?_;intro q' c' w' k1 k2;have K1:=A k1;have K2:=A k2;clear k1 k2)
   go_ret
   exact⟨_,_,rfl,(zc w _).trans' K2.o,K1.o.lower (zc w _).size⟩
def zbm{n b o c:Nat}(h0:0<n)(hl:us.length=n*32)(hc:∀j u,us[j]?=some u->w.cell? ⟨b,o+j,none⟩=some u)(few:n<=100000)(h1:∀u∈us,u.oneCell'=true):Calls prog 34 #[.slice (some ⟨b,o,none⟩) n c] w (Br 29 32 w n us):=by
 have HX:=A hc;have HL:=A hl;have H1:=A h1;have HF:=A (And.intro few h0);have hnil:=zdI;clear h0 hl few h1 hc;go_enter func34,ntmps34;go_wp2_with(at_builtin;refine aj _ ry _ _ rfl rfl rfl HF.o.1 HF.o.2 rfl HL.o (ph HX.o _) H1.o ?_;intro q' c' w' k1 k2;have K1:=A k1;have K2:=A k2;clear k1 k2)
 go_ret
 exact⟨_,_,rfl,(zc w _).trans' K2.o,K1.o.lower (zc w _).size⟩
end GT
end
end Go.AEv
