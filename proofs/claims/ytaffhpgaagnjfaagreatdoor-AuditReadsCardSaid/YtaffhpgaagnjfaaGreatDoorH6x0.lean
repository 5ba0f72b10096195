/- Trails: H6x0. Conditions: each theorem's. -/
import Derived.Test.YtaffhpgaagnjfaaGreatDoorL6a
import Derived.Deep.RegionHeld3
import Derived.Laws.Cover3
set_option linter.all false
open List Go.World Go.Proofs.Tryz
open Go.Proofs
set_option maxHeartbeats 40000000
set_option maxRecDepth 100000
namespace Go.AEv
variable{a u w w2:Ea}{b g j n:Nat}{cs:Ec}{es:List Ent}{l:Eb}{p:Ed}{t:Ei}{v:Bool}
open Go
open Go.AuditPlain(hi qs zm zT numbers zig)
open KT(zB)
section
open TR
open Go.AuditPlain(put)
namespace RD
noncomputable def fe(l:Eb):Option ByteArray:=if l=[] then none else some (str l)
structure pS(N:Nat)(M:Eb)(R:zy)(ok:Bool):Prop where
 ex:∃(v1:Nat) (v2:Nat) (v3:Eb) (v4:Int) (v5:Eb) (v6:Eb) (v7:Nat) (v8:Bool) (v9:Nat) (v10:Eb) (v11:Eb) (v12:Eb) (v13:Eb) (v14:Bool) (s1 s2 s3 s4 s5 s6 s7 s8 s9 s10 s11 s12 s13 s14:S),stU 4000 (M,true)=(v1,s1)/\stU 2147483647 s1=(v2,s2)/\stB N s2=(v3,s3)/\stI s3=(v4,s4)/\stB N s4=(v5,s5)/\stB N s5=(v6,s6)/\stU 30000 s6=(v7,s7)/\stF s7=(v8,s8)/\stU 256 s8=(v9,s9)/\stL s9=(v10,s10)/\stL s10=(v11,s11)/\stB N s11=(v12,s12)/\stB N s12=(v13,s13)/\stF s13=(v14,s14)/\R={ number:=((v1:Nat):Int),version:=((v2:Nat):Int),tenant:=str v3,session:=v4,action:=str v5,path:=str v6,day:=((v7:Nat):Int),granted:=v8,user:=((v9:Nat):Int),up:=fe v10,down:=fe v11,does:=str v12,at_:=str v13,deep:=v14 }/\ok=(s14.2&&s14.1.isEmpty)
def ziU(N:Nat)(M:Eb):∃R ok,pS N M R ok:=
 ⟨_,_,⟨_,_,_,_,_,_,_,_,_,_,_,_,_,_,_,_,_,_,_,_,_,_,_,_,_,_,_,_,rfl,rfl,rfl,rfl,rfl,rfl,rfl,rfl,rfl,rfl,rfl,rfl,rfl,rfl,rfl,rfl⟩⟩
def XL(w0 w:Ea)(b g x r:Nat)(s:S)(vs:Ec)(Z:List (Value×List Nat)):Prop:=∃er:Int,(er=0↔s.2=true)/\Dec w0 w b g x r s.1 vs Z er
section
variable{w0 w w2:Ea}{b g x r:Nat}{s s':S}{vs:Ec}{Z:List (Value×List Nat)}
def PT{L:Eb}(h:Dec w0 w b g x r L vs Z 0):XL w0 w b g x r (L,true) vs Z:=⟨0,⟨λ_=>rfl,λ_=>rfl⟩,h⟩
def XL.at_(h:XL w0 w b g x r s vs Z):AtU w b g s:=by obtain⟨a,h1,h2⟩:=h;exact⟨a,h1,h2.at_⟩
def XL.step(h:XL w0 w b g x r s vs Z)(k:jy b w w2)(ha:AtU w2 b g s'):XL w0 w2 b g x r s' vs Z:=by
 obtain⟨_,_,d⟩:=h;obtain⟨a,h1,h2⟩:=ha;exact⟨a,h1,d.only k h2⟩
def XL.set(h:XL w0 w b g x r s vs Z)(k:Nat)(v:Ei)(a:k<vs.length):XL w0 (w.setCell ⟨x,k,none⟩ v) b g x r s (vs.set k v) Z:=by
 obtain⟨c,h1,d⟩:=h;exact⟨c,h1,d.set k v a⟩
def qo(h:XL w0 w b g x r s vs Z){k:Nat}{v:Ei}(hv:vs[k]?=some v):w.cell? ⟨x,k,none⟩=some v/\w.frozen? ⟨x,k,none⟩=false:=by
 obtain⟨a,h1,d⟩:=h;exact zL d hv
def ku(h:XL w0 w b g x r s vs Z){k:Nat}(a:k<14):∃v,w.cell? ⟨r,k,none⟩=some v/\w.frozen? ⟨r,k,none⟩=false:=by
 obtain⟨c,h1,d⟩:=h;exact qQ d a
def DeP(w0:Ea)(b g x r:Nat)(s:S)(vs:Ec)(Z:List (Value×List Nat))(v:Ei)(e:Ew)(w2:Ea):Prop:=e = .returned v/\XL w0 w2 b g x r s vs Z
def od(h:XL w0 w b g x r s vs Z)(m:Nat){k:Int}{v:Nat}(c:(m:Int)=k)(hb:m<=9000000000000000000)(a:stU m s=(v,s')):Calls prog 91 #[.pointer (some ⟨b,0,none⟩),.int .i64 k] w (DeP w0 b g x r s' vs Z (.int .i64 (v:Nat))):=by
 subst c;exact(MQ h.at_ hb a).mono λ_ _ k=>⟨k.1,h.step k.2.2 k.2.1⟩
def rM(h:XL w0 w b g x r s vs Z){m:Nat}{v:Eb}(hb:m<=1000000)(a:stB m s=(v,s')):Calls prog 92 #[.pointer (some ⟨b,0,none⟩),.int .i64 (m:Nat)] w (DeP w0 b g x r s' vs Z (.string (str v))):=
 (zfg h.at_ hb a).mono λ_ _ k=>⟨k.1,h.step k.2.2 k.2.1⟩
def zgw(h:XL w0 w b g x r s vs Z){v:Int}(a:stI s=(v,s')):Calls prog 93 #[.pointer (some ⟨b,0,none⟩),.int .i64 (-9223372036854775808),.int .i64 9223372036854775807] w (DeP w0 b g x r s' vs Z (.int .i64 v)):=
 (zgu h.at_ a).mono λ_ _ k=>⟨k.1,h.step k.2.2 k.2.1⟩
def Pu(h:XL w0 w b g x r s vs Z)(a:stF s=(v,s')):Calls prog 94 #[.pointer (some ⟨b,0,none⟩)] w (DeP w0 b g x r s' vs Z (.bool v)):=
 (zee h.at_ a).mono λ_ _ k=>⟨k.1,h.step k.2.2 k.2.1⟩
def RoU(w0:Ea)(b g x r:Nat)(s:S)(vs:Ec)(Z:List (Value×List Nat))(l:Eb)(e:Ew)(w2:Ea):Prop:=∃p n c,e = .returned (.slice p n c)/\XL w0 w2 b g x r s vs ((.slice p n c,l)::Z)
def Ce(h:XL w0 w b g x r s vs Z)(c:stL s=(l,s')):Calls prog 95 #[.pointer (some ⟨b,0,none⟩)] w (RoU w0 b g x r s' vs Z l):=by
 refine(SI h.at_ c).mono λe w2 k=>?_;obtain⟨v,rfl,a,k2,k3⟩:=k
 have hd:∀v,ki w.heap.size w2 v l->XL w0 w2 b g x r s' vs ((v,l)::Z):=λv hv=>by
  obtain⟨j,_,i⟩:=id h;obtain⟨zs,_,c⟩:=i.res;obtain⟨f,h2,d⟩:=h.step k3 k2;refine⟨f,h2,{ d with li:=λq hq=>?_ }⟩;rcases Lf.1 hq with rfl|hq
  .exact⟨w.heap.size,block_lt_of_cell? w _ i.at_.err,zx.lt i.row,zx.lt c,hv⟩
  .exact d.li q hq
 by_cases hn:l=[]
 .obtain rfl:=a.1 hn;exact⟨none,0,0,rfl,hd _ a⟩
 .obtain⟨y,rfl,_⟩:=a.2 hn;exact⟨_,_,_,rfl,hd _ a⟩
def PG(h:AtU w b g s):Calls prog 45 #[.pointer (some ⟨b,0,none⟩)] w λe w2=>∃a:Int,e = .returned (.int .i64 a)/\(a==0)=(s.2&&s.1.isEmpty)/\w=w2:=by
 obtain⟨L,ok⟩:=s
 cases ok with
 | true=>
  have ha:=h.yes rfl
  cases L with
  | nil=>exact(oP ha rfl).mono λ_ _ k=>⟨0,k.1,rfl,k.2⟩
  | cons y L=>exact(ug ha Oc).mono λ_ _ k=>⟨6,k.1,rfl,k.2⟩
 | false=>
  obtain⟨a,hn,ha⟩:=h.no rfl;exact(xq ha hn).mono λ_ _ k=>⟨a,k.1,by rw[beq_eq_false_iff_ne.2 hn];rfl,k.2⟩
end
def mu{B:Nat}{v:Ei}(h:ki B w v l)(hl:∀x∈l,x<=63):AtS w v (fe l):=by
 have e:zI (some (str l))=l:=by
  show zG (str l)=l;exact ZE λx hx=>by have:=hl x hx;omega
 have h2:=fN (o:=some (str l)) (by rw[e];exact h);unfold nrm at h2;rw[e]at h2;exact h2
def vc(w:Ea)(R:zy)(ok:Bool)(e:Ew)(w2:Ea):Prop:=∃p1 n1 c1 p2 n2 c2,e = .returned (.tuple #[Zy R p1 p2 n1 n2 c1 c2,.bool ok])/\Grown w w2/\AtS w2 (.slice p1 n1 c1) R.up/\AtS w2 (.slice p2 n2 c2) R.down
def ar{s s':S}(h:stL s=(l,s')):∀x∈l,x<=63:=by
 intro x hx;unfold stL at h;have:=NO (stU 63 s).1 (stU 63 s).2 x;rw[h]at this;exact this hx
def zbe{c N:Nat}{M:Eb}{R:zy}{ok:Bool}(hi:In w p M)(hN:M.length=N)(hb:N<=100000)(hr:pS N M R ok):Calls prog 42 #[.slice p N c] w (vc w R ok):=by
 obtain⟨v1,v2,v3,v4,v5,v6,v7,v8,v9,v10,v11,v12,v13,v14,s1,s2,s3,s4,s5,s6,s7,s8,s9,s10,s11,s12,s13,s14,e1,e2,e3,e4,e5,e6,e7,e8,e9,e10,e11,e12,e13,e14,hR,hok⟩:=hr.ex;have r1:=A e1;have r2:=A e2;have r3:=A e3;have r4:=A e4;have r5:=A e5;have r6:=A e6;have r7:=A e7;have r8:=A e8;have r9:=A e9;have r10:=A e10;have r11:=A e11;have r12:=A e12;have r13:=A e13;have r14:=A e14;have NB:RowKit.Hid (N<=1000000):=A I;have NBB:RowKit.Hid (N<=100000):=A hb;have HI:=A hi;have HN:=A hN;have HR:=A hR;have HOK:=A hok;clear hi hN hb hr hR hok e1 e2 e3 e4 e5 e6 e7 e8 e9 e10 e11 e12 e13 e14;go_enter func42,ntmps42
 go_wp2_with(first
  | (go_at_call 40;(with_reducible refine(cm HI HN NBB.o).mono ?_);rintro e w0 ⟨b,g,rfl,kb,kg,kn,ka,kr,_⟩;have D0:=A (PT (oV (L:=M) kb kg kn ka kr));clear kb kg kn ka kr)
  | (go_at_call 91;(with_reducible refine(od (k:=4000) D0.o 4000 rfl C r1.o).mono ?_);rintro e w1 ⟨rfl,kd⟩;have E1:=A (kd.set 0 (.int .i64 (v1:Nat)) (by first|decide|(simp only[LF];decide)));obtain⟨x1,y1⟩:=qo kd (k:=0) rfl;clear kd)
  | (go_at_call 91;(with_reducible refine(od (k:=2147483647) E1.o 2147483647 rfl C r2.o).mono ?_);rintro e w2 ⟨rfl,kd⟩;have E2:=A (kd.set 1 (.int .i64 (v2:Nat)) (by first|decide|(simp only[LF];decide)));obtain⟨x2,y2⟩:=qo kd (k:=1) rfl;clear kd)
  | (go_at_call 92;(with_reducible refine(rM E2.o NB.o r3.o).mono ?_);rintro e w3 ⟨rfl,kd⟩;have E3:=A (kd.set 2 (.string (str v3)) (by first|decide|(simp only[LF];decide)));obtain⟨x3,y3⟩:=qo kd (k:=2) rfl;clear kd)
  | (go_at_call 93;(with_reducible refine(zgw E3.o r4.o).mono ?_);rintro e w4 ⟨rfl,kd⟩;have E4:=A (kd.set 3 (.int .i64 v4) (by first|decide|(simp only[LF];decide)));obtain⟨x4,y4⟩:=qo kd (k:=3) rfl;clear kd)
  | (go_at_call 92;(with_reducible refine(rM E4.o NB.o r5.o).mono ?_);rintro e w5 ⟨rfl,kd⟩;have E5:=A (kd.set 4 (.string (str v5)) (by first|decide|(simp only[LF];decide)));obtain⟨x5,y5⟩:=qo kd (k:=4) rfl;clear kd)
  | (go_at_call 92;(with_reducible refine(rM E5.o NB.o r6.o).mono ?_);rintro e w6 ⟨rfl,kd⟩;have E6:=A (kd.set 5 (.string (str v6)) (by first|decide|(simp only[LF];decide)));obtain⟨x6,y6⟩:=qo kd (k:=5) rfl;clear kd)
  | (go_at_call 91;(with_reducible refine(od (k:=30000) E6.o 30000 rfl C r7.o).mono ?_);rintro e w7 ⟨rfl,kd⟩;have E7:=A (kd.set 6 (.int .i64 (v7:Nat)) (by first|decide|(simp only[LF];decide)));obtain⟨x7,y7⟩:=qo kd (k:=6) rfl;clear kd)
  | (go_at_call 94;(with_reducible refine(Pu E7.o r8.o).mono ?_);rintro e w8 ⟨rfl,kd⟩;have E8:=A (kd.set 7 (.bool v8) (by first|decide|(simp only[LF];decide)));obtain⟨x8,y8⟩:=qo kd (k:=7) rfl;clear kd)
  | (go_at_call 91;(with_reducible refine(od (k:=256) E8.o 256 rfl C r9.o).mono ?_);rintro e w9 ⟨rfl,kd⟩;have E9:=A (kd.set 8 (.int .i64 (v9:Nat)) (by first|decide|(simp only[LF];decide)));obtain⟨x9,y9⟩:=qo kd (k:=8) rfl;clear kd)
  | (go_at_call 95;(with_reducible refine(Ce E9.o r10.o).mono ?_);rintro e w10 ⟨p10,m10,c10,rfl,kd⟩;have E10:=A (kd.set 9 (.slice p10 m10 c10) (by first|decide|(simp only[LF];decide)));obtain⟨x10,y10⟩:=qo kd (k:=9) rfl;clear kd)
  | (go_at_call 95;(with_reducible refine(Ce E10.o r11.o).mono ?_);rintro e w11 ⟨p11,m11,c11,rfl,kd⟩;have E11:=A (kd.set 10 (.slice p11 m11 c11) (by first|decide|(simp only[LF];decide)));obtain⟨x11,y11⟩:=qo kd (k:=10) rfl;clear kd)
  | (go_at_call 92;(with_reducible refine(rM E11.o NB.o r12.o).mono ?_);rintro e w12 ⟨rfl,kd⟩;have E12:=A (kd.set 11 (.string (str v12)) (by first|decide|(simp only[LF];decide)));obtain⟨x12,y12⟩:=qo kd (k:=11) rfl;clear kd)
  | (go_at_call 92;(with_reducible refine(rM E12.o NB.o r13.o).mono ?_);rintro e w13 ⟨rfl,kd⟩;have E13:=A (kd.set 12 (.string (str v13)) (by first|decide|(simp only[LF];decide)));obtain⟨x13,y13⟩:=qo kd (k:=12) rfl;clear kd)
  | (go_at_call 94;(with_reducible refine(Pu E13.o r14.o).mono ?_);rintro e w14 ⟨rfl,kd⟩;have E14:=A (kd.set 13 (.bool v14) (by first|decide|(simp only[LF];decide)));obtain⟨x14,y14⟩:=qo kd (k:=13) rfl;clear kd))
 clear x14 y14;generalize w14.setCell _ _=W at *;have cc0:=(qo E14.o (k:=0) rfl).1;obtain⟨z0,q0,f0⟩:=ku E14.o (k:=0) C;have cc1:=(qo E14.o (k:=1) rfl).1;obtain⟨z1,q1,f1⟩:=ku E14.o (k:=1) C;have cc2:=(qo E14.o (k:=2) rfl).1;obtain⟨z2,q2,f2⟩:=ku E14.o (k:=2) C;have cc3:=(qo E14.o (k:=3) rfl).1;obtain⟨z3,q3,f3⟩:=ku E14.o (k:=3) C;have cc4:=(qo E14.o (k:=4) rfl).1;obtain⟨z4,q4,f4⟩:=ku E14.o (k:=4) C;have cc5:=(qo E14.o (k:=5) rfl).1;obtain⟨z5,q5,f5⟩:=ku E14.o (k:=5) C;have cc6:=(qo E14.o (k:=6) rfl).1;obtain⟨z6,q6,f6⟩:=ku E14.o (k:=6) C;have cc7:=(qo E14.o (k:=7) rfl).1;obtain⟨z7,q7,f7⟩:=ku E14.o (k:=7) C;have cc8:=(qo E14.o (k:=8) rfl).1;obtain⟨z8,q8,f8⟩:=ku E14.o (k:=8) C;have cc9:=(qo E14.o (k:=9) rfl).1;obtain⟨z9,q9,f9⟩:=ku E14.o (k:=9) C;have cc10:=(qo E14.o (k:=10) rfl).1;obtain⟨z10,q10,f10⟩:=ku E14.o (k:=10) C;have cc11:=(qo E14.o (k:=11) rfl).1;obtain⟨z11,q11,f11⟩:=ku E14.o (k:=11) C;have cc12:=(qo E14.o (k:=12) rfl).1;obtain⟨z12,q12,f12⟩:=ku E14.o (k:=12) C;have cc13:=(qo E14.o (k:=13) rfl).1;obtain⟨z13,q13,f13⟩:=ku E14.o (k:=13) C;all_goals(go_region_with(go_at_call 45;(with_reducible refine(PG (E14.o.at_.grown (zM _))).mono ?_);rintro e w15 ⟨er,rfl,hne,rfl⟩))
 all_goals clear cc0 cc1 cc2 cc3 cc4 cc5 cc6 cc7 cc8 cc9 cc10 cc11 cc12 cc13
 all_goals go_wp2
 all_goals(
  (try simp only[Exit.inBlock,Exit.then])
  obtain⟨er0,_,hE⟩:=E14.o;have hd:=gC hE [.int .i64 (v1:Nat),.int .i64 (v2:Nat),.string (str v3),.int .i64 v4,.string (str v5),.string (str v6),.int .i64 (v7:Nat),.bool v8,.int .i64 (v9:Nat),.slice p10 m10 c10,.slice p11 m11 c11,.string (str v12),.string (str v13),.bool v14] rfl;simp only[World.setCells,Lz,Nat.reduceAdd]at hd;obtain⟨B1,i1⟩:=hd.2.2 (.slice p10 m10 c10,v10) (LP _ LG);obtain⟨B2,i2⟩:=hd.2.2 (.slice p11 m11 c11,v11) LG;refine bodyPost_ret (v:=.tuple #[Zy R p10 p11 m10 m11 c10 c11,.bool ok]) ?_ rfl ⟨p10,m10,c10,p11,m11,c11,rfl,hd.1,by rw[HR.o];exact mu i1 (ar r10.o),by rw[HR.o];exact mu i2 (ar r11.o)⟩;rw[HR.o,HOK.o]
  exact nI rfl (by first|rfl|(rw[<- hne];rfl)) hd.2.1 rfl)
end RD
end
section
open TR
namespace NV
def zcE(w:Ea)(e:Ew)(w2:Ea):Prop:=∃b:Bool,e = .returned (.bool b)/\w2=w
def wH{w : World}{s : ByteArray}(hs : s.size <= 1000000) : Calls prog 227 #[.string s] w (zcE w) := by
  have HS := A hs;clear hs
  cases h1 : decide ((s.size : Int) < 1) with
  | true =>
    go_enter func227, ntmps227
    go_wp2
    all_goals(go_ret; exact⟨_, rfl, rfl⟩)
  | false =>
    cases h2 : decide ((12 : Int) < (s.size : Int)) with
    | true =>
      go_enter func227, ntmps227
      go_wp2
      all_goals(go_ret; exact⟨_, rfl, rfl⟩)
    | false =>
      cases h3 : (s.toList == [46]) with
      | true =>
        go_enter func227, ntmps227
        go_wp2
        all_goals(go_ret; exact⟨_, rfl, rfl⟩)
      | false =>
        cases h4 : (s.toList == [46, 46]) with
        | true =>
          go_enter func227, ntmps227
          go_wp2
          all_goals(go_ret; exact⟨_, rfl, rfl⟩)
        | false =>
          go_enter func227, ntmps227
          go_wp2
          all_goals(
            go_loopg [23] s.size (λg i wr => wr = w /\ ∃j : Nat, j + g = s.size /\ i = .int .i64 j)
            case atStart => exact⟨rfl, 0, by omega, rfl⟩
            case round =>
              obtain⟨rfl, j, hj, rfl⟩ := hrel
              cases gk with
              | zero =>
                have hjm : ¬((j : Int) < (s.size : Int)) := by omega
                go_wp2
                go_ret
                exact⟨_, rfl, rfl⟩
              | succ g =>
                have hjm : (j : Int) < (s.size : Int) := by omega
                have hjs : j < s.size := by omega
                have hw64 : RowKit.wrap64 ((j : Int) + 1) = (j : Int) + 1 := by unfold RowKit.wrap64; have := HS.o; omega
                go_wp2
                all_goals first
                  | (go_ret; exact⟨_, rfl, rfl⟩)
                  | (go_roundg g
                     case measure => omega
                     case rel => exact⟨rfl, j + 1, by omega, (by first|rfl|(rw[hw64]; rfl))⟩))
end NV
end
section
open TR
open Go.AuditPlain(put)
namespace RD
def lL(R:zy)(a:List zy):qO (R::a)=zm R.qC.bytes++qO a:=by unfold qO;rw[flatMap_cons]
noncomputable def Left(Rs:List zy)(kb:Nat)(rest:Eb)(j:Nat):List Nat:=qO ((Rs.take kb).drop j)++rest
def mn{a:List zy}{rest:Eb}{R:zy}(b:j<n)(hR:a[j]?=some R):Left a n rest j=zm R.qC.bytes++Left a n rest (j+1):=by
 unfold Left;have h:(a.take n)[j]?=some R:=by rw[getElem?_take,Y b];exact hR
 obtain⟨hl,he⟩:=LL.1 h;rw[drop_eq_getElem_cons hl,he,lL,Ae]
def fD{a:List zy}{rest:Eb}:Left a n rest n=rest:=by
 unfold Left;rw[drop_eq_nil_of_le (by rw[Ar];omega)];rfl
def zcF(w0 wN:Ea)(b g:Nat)(Rs:List zy)(kb:Nat)(rest:Eb)(k:Nat)(t i:Ei)(w:Ea):Prop:=∃(j:Nat) (a:Addr) (es:List Ent),j+k=Rs.length/\j<=kb/\i = .int .i64 j/\t = .pointer (some a)/\es.map (·.1)=(Rs.take j).map nr/\Rr w0 wN w b g (.pointer (some a)) es (Left Rs kb rest j) 0
def RO(w0:Ea)(Rs:List zy)(v:Bool)(e:Ew)(w2:Ea):Prop:=
 if v then ∃a es,e = .returned (.tuple #[.pointer (some a),.int .i64 0])/\Grown w0 w2/\qm (own w0) w2 (.pointer (some a)) es/\es.map (·.1)=Rs.map nr
 else e = .returned (.tuple #[.pointer none,.int .i64 6])/\Grown w0 w2
structure Inp(Rs:List zy)(kb:Nat)(rest:Eb)(N:Nat)(v:Bool):Prop where
 hist:iZ Rs
 acc:∀R∈Rs,RH.Acc R
 few:Rs.length<=8
 le:kb<=Rs.length
 len:(put Rs.length++Left Rs kb rest 0).length=N
 max:N<=100000
 cut:kb<Rs.length->jF N rest=none/\v=false
 full:kb=Rs.length->rest=Zf Rs/\v=true\/rest.length<32/\v=false\/32<rest.length/\v=false
 recs:∀R∈Rs.take kb,R.qC.bytes.length<=N
def Wm{c N:Nat}{L:Eb}(a:In w p L)(hN:L.length=N)(hlen:N<=100000):Calls prog 40 #[.slice p N c] w (Hw w L):=by
 subst hN;exact V9 a hlen
def Dh(h:Rr u a w b g t es (put n++l) 0)(hn:n<=8):Calls prog 41 #[.pointer (some ⟨b,0,none⟩),.int .i64 4000] w λe w2=>e = .returned (.int .i64 (n:Nat))/\Rr u a w2 b g t es l 0:=by
 refine Calls.mono (Km (m:=4000) h.at_ C (uint_put I C l)) λe w2 k=>?_;exact⟨k.1,h.only k.2.2 k.2.1⟩
def zcd{L:Eb}(m:kG u)(ha:N w b g L 0)(h:Ty w b)(f:Grown u w)(hb:u.heap.size<=b)(i:g<w.heap.size):Calls prog 22 #[] w λe w2=>∃a,e = .returned (.pointer (some a))/\Rr u w w2 b g (.pointer (some a)) [] L 0:=by
 refine Calls.mono (TC.Up (B:=own w) (λc hc=>hc) (m.Jl (qh.zH f))) λe w2 k=>?_;obtain⟨g1,t,rfl,d⟩:=k;obtain⟨⟨x,hd,r,rfl,_⟩,_⟩:=id d;obtain⟨l,j,h2⟩:=h;exact⟨_,rfl,ha.grown g1,⟨l,j,by rw[g1.old b (LO.1 h2).1];exact h2⟩,d,f.trans' g1,(LO.1 h2).1,i,g1.size,hb,f.size⟩
def Dq{L L':Eb}(h:Rr u a w b g t es L 0){N:Nat}{M:Eb}(hb:N<=1000000)(d:jF N L=some (M,L'))(f:M.length=n):Calls prog 43 #[.pointer (some ⟨b,0,none⟩),.int .i64 (N:Nat)] w λe w2=>∃p c,e = .returned (.slice p n c)/\In w2 p M/\Rr u a w2 b g t es L' 0:=by
 subst f;exact zbx h hb d
def rQ{a:List zy}{R:zy}{v z2:Ei}(h:es.map (·.1)=(a.take j).map nr)(hR:a[j]?=some R):(es++[(nr R,v,z2)]).map (·.1)=(a.take (j+1)).map nr:=by
 rw[take_add_one,hR,Az,h,Az];rfl
def nO{a:List zy}(hv:v=false)(g:Grown w w2):RO w a v (.returned (.tuple #[.pointer none,.int .i64 6])) w2:=by
 subst hv;exact⟨rfl,g⟩
def PO{L:Eb}(h:32<L.length):0<(L.drop 32).length:=by rw[length_drop];omega
def zfI{L:Eb}(h:Rr u a w b g t es L 0)(hs:L.length<32):Calls prog 44 #[.pointer (some ⟨b,0,none⟩),.int .i64 32] w (R6 u a b g t es L):=by
 refine Calls.mono (lM (m:=32) h.at_ hs) λe w2 k=>?_;obtain⟨d,c,k2,k3,k4⟩:=k;exact⟨d,c,k2,h.only k4 k3⟩
def zfJ{L:Eb}(h:Rr u a w b g t es L 0)(hs:32<L.length):Calls prog 44 #[.pointer (some ⟨b,0,none⟩),.int .i64 32] w λe w2=>∃p c,e = .returned (.slice p 32 c)/\Rr u a w2 b g t es (L.drop 32) 0:=by
 refine Calls.mono (nP (n:=32) h.at_ I) λe w2 k=>?_;obtain⟨p,c,d,_,_,_,_,k3,k4⟩:=k;exact⟨p,c,d,h.only k4 k3⟩
structure Fin(w0 wN wT w:Ea)(t:Ei)(es:List Ent)(b o:Nat)(cs:Ec):Prop where
 gr:Grown w0 w
 tr:qm (λc=>own wN c/\c<wT.heap.size) w t es
 rng:w.rangeAt b o cs
 n0:w0.heap.size<=wN.heap.size
 lb:wT.heap.size<=b
 lt:b<w.heap.size
def VW{o:Nat}(h:w.rangeAt b o cs)(e:w2.heap[b]?=w.heap[b]?):w2.rangeAt b o cs:=λj v c=>by
 rw[cell?_of_block (a:=⟨b,o+j,none⟩) e];exact h j v c
def Fin.grown{c:Ea}{o:Nat}(h:Fin u c a w t es b o cs)(k:Grown w w2):Fin u c a w2 t es b o cs:=
 ⟨h.gr.trans' k,Yg k h.tr,VW h.rng (k.old b h.lt),h.n0,h.lb,LK h.lt k.size⟩
def zd1{d:Ea}{o:Nat}(h:RowKit.Hid (Fin u d a w t es b o cs))(few:es.length<=8)(f:cs=zB 32 (ja (es.map (·.1)))):Calls prog 8 #[t] w λe w2=>e = .returned (.agg cs.toArray)/\RowKit.Hid (Fin u d a w2 t es b o cs):=by
 have h:=h.o;refine Calls.mono (TC.mz few h.tr) λe w2 hp=>?_;obtain⟨k,k3,g,rfl⟩:=hp;refine⟨by rw[f],A ⟨⟨λc hc=>?_,Lj h.gr.size k.size,k.tape.trans h.gr.tape,k.os.trans h.gr.os,k.output.trans h.gr.output⟩,g,VW h.rng (k3.2 b h.lt λe=>?_),h.n0,h.lb,LK h.lt k.size⟩⟩
 .rw[k3.2 c (LK hc h.gr.size) λe=>?_,h.gr.old c hc];have:=h.n0;have j:d.heap.size<=c:=e.1;omega
 .have:=h.lb;have i:b<a.heap.size:=e.2;omega
def KY{B:Em}(h:qm B w t es):qm (λc=>B c/\c<w.heap.size) w t es:=by
 obtain⟨⟨x,hd,r,e,d,b,a,u,k,j⟩,l⟩:=h;refine⟨⟨x,hd,r,e,d,b,a,⟨u,zx.lt d⟩,⟨k,zx.lt b⟩,λp n m e=>⟨j p n m e,?_⟩⟩,l⟩;by_cases f:es=[]
 .rw[a.1 f]at e;cases e
 .obtain⟨y,i,g⟩:=a.2 f;rw[i]at e;cases e;exact zx.lt g
def vi{B a:Em}(h:qm B w t es)(k:∀c,B c->a c):qm a w t es:=by
 obtain⟨⟨x,hd,r,e,f,d,b,j,i,g⟩,l⟩:=h;exact⟨⟨x,hd,r,e,f,d,b,k _ j,k _ i,λp n m e=>k _ (g p n m e)⟩,l⟩
def zfK{f:Ea}{rest:Eb}{d:List zy}(h:Rr u f w b g t es rest 0)(y:rest=Zf d)(r:es.map (·.1)=(d.take j).map nr)(H:j=d.length)(x:cs=zB 32 (ja (es.map (·.1)))) :
  Calls prog 44 #[.pointer (some ⟨b,0,none⟩),.int .i64 32] w λe w2=>∃m l c4,e = .returned (.slice (some ⟨m,l,none⟩) 32 c4)/\N w2 b g [] 0/\Fin u f w w2 t es m l cs:=by
 have hl:rest.length=32:=by rw[y];exact fT d
 refine Calls.mono (nP (n:=32) h.at_ I) λe w2 k=>?_;obtain⟨p,c,z,_,k2,k5,_,k3,k4⟩:=k;rw[AO I]at k2;rw[drop_of_length_le I]at k3;obtain⟨m,l,rfl,hc⟩:=k2.2 (λe=>by rw[e]at hl;cases hl);have h2:=h.only k4 k3;have hb:¬(own f b/\b<w.heap.size):=λe=>by have:=h.bN;have P:f.heap.size<=b:=e.1;omega
 have hd:ja (es.map (·.1))=ja d:=by rw[r,H,take_length,wA]
 refine⟨m,l,c,z,k3,h2.gr,VO (KY h.tr) hb h.ty k4,λi v hi=>?_,h.n0,k5 _ rfl,?_⟩
 .rw[x,hd]at hi;unfold zB at hi;rw[Lw]at hi;obtain⟨a,ha,rfl⟩:=LU.1 hi;exact hc i (ja d a) (by rw[y];unfold Zf;rw[Lw,ha];rfl)
 .have:rest[0]?=some rest[0]:=Ly I;exact block_lt_of_cell? w2 _ (hc 0 _ this)
def eO{f:Ea}{e:List zy}{a:Addr}{o:Nat}(hv:v=true)(h:Fin w u f w2 (.pointer (some a)) es b o cs)(d:es.map (·.1)=(e.take j).map nr)(g:j=e.length):RO w e v (.returned (.tuple #[.pointer (some a),.int .i64 0])) w2:=by
 subst hv;exact⟨a,es,rfl,h.gr,vi h.tr λc hc=>Lj h.n0 hc.1,by rw[d,g,take_length]⟩
def FE{c N kb:Nat}{Rs:List zy}{rest:Eb}(hk:kG w)(hi:In w p (put Rs.length++Left Rs kb rest 0))(h:Inp Rs kb rest N v):Calls prog 15 #[.slice p N c] w (RO w Rs v):=by
 have TK:=A hk;have HI:=A hi;have H:=A h;clear hk hi h;go_enter func15,ntmps15
 go_wp2_with(first
  | (go_at_call 40;(with_reducible refine(Wm HI.o H.o.len H.o.max).mono ?_);rintro e w1 ⟨b,g,rfl,kb1,kg,kn,ka,kr,kt⟩;have KA:=A ka;have KB:=A kb1;have KG:=A (ka.glt (nQ _ _));have KR:=A kr;have KT:=A kt;clear kb1 kg kn ka kr kt)
  | (go_at_call 22;(with_reducible refine(zcd TK.o KA.o KT.o KR.o KB.o KG.o).mono ?_);rintro e w2 ⟨a,rfl,H2⟩;have HR2:=A H2;clear H2)
  | (go_at_call 41;(with_reducible refine(Dh HR2.o H.o.few).mono ?_);rintro e w3 ⟨rfl,H3⟩;have HR3:=A H3;clear H3))
 .go_loopg [5,16] Rs.length (λk t i wr=>zcF w w1 b g Rs kb rest k t i wr)
  case atStart=>exact⟨0,a,[],I,Nat.zero_le _,rfl,rfl,rfl,HR3.o⟩
  case round=>
   obtain⟨j,a5,es,hj,hjk,rfl,rfl,hes,HR⟩:=hrel;have H4:=A HR;have HE:=A hes;have few8:RowKit.Hid (es.length<=8):=A (by have h1:=congrArg List.length hes;have:=H.o.few;simp at h1;omega);have NB:RowKit.Hid (N<=1000000):=A (by have:=H.o.max;omega);clear HR hes
   cases gk with
   | zero=>
    have hjm:¬((j:Int)<(Rs.length:Int)):=by omega
    have hl:RowKit.Hid (kb=Rs.length):=A (by have:=H.o.le;omega);have h5:=H4.o;rw[show j=kb by have:=hl.o;omega,fD]at h5;have H5:=A h5;have hfull:=H.o.full hl.o;have HJ:RowKit.Hid (j=Rs.length):=A I;clear h5;rcases hfull with⟨hrest,hv⟩|⟨hlt,hv⟩|⟨hgt,hv⟩
    case inl=>
     have HV:=A hv;have HRS:=A hrest;obtain⟨cs,hcs⟩:∃cs,cs=zB 32 (ja (es.map (·.1))):=⟨_,rfl⟩
     have HC:=A hcs;have EQ:=zeo hcs;have hi29:=Qz hcs;have h29:=under29;clear hv hrest hcs
     go_wp2_with(first
      | (go_at_call 44;(with_reducible refine(zfK H5.o HRS.o HE.o HJ.o HC.o).mono ?_);rintro e w4 ⟨b4,o4,c4,rfl,ha,hf⟩;have HA4:=A ha;have HF4:=A hf;clear ha hf)
      | (go_at_call 45;(with_reducible refine(oP HA4.o rfl).mono ?_);rintro e w5 ⟨rfl,rfl⟩))
     have HL:=A (HF4.o.grown (zM _));have HR:=HL.o.rng;have hat:∀wx,(Instr.arrayAt 29 (.slice (some ⟨b4,o4,none⟩) 32 c4)).run prog wx = .ok (.pointer (some ⟨b4,o4,none⟩)) wx:=λwx=>run_arrayAt (P:=prog) wx 29 5 32 (some ⟨b4,o4,none⟩) 32 c4 under29 (Lh _)
     case _=>
      refine wp_region_noPanic ?_;refine wp_region_held_drew (S:=λwx=>wx.rangeAt b4 o4 cs/\RowKit.Hid (Fin w w1 wr wx (.pointer (some a5)) es b4 o4 cs)) U ?_ (λhHeld=>?_)
      .exact⟨HR,HL⟩
      refine wpAnyH_take (i:=0) (v:=.pointer (some a5)) rfl U U U (λ_ _ _ h=>h) (Or.inl ⟨by rfl,λwx _=>rfl⟩) (by assumption) ?_;simp only[Act.put,setIfInBounds_toArray,set_cons_zero,set_cons_succ];refine wpAnyH_take (i:=2) (v:=.slice (some ⟨b4,o4,none⟩) 32 c4) rfl U U U (λ_ _ _ h=>h) (Or.inl ⟨by rfl,λwx _=>rfl⟩) (by assumption) ?_;simp only[Act.put,setIfInBounds_toArray,set_cons_zero,set_cons_succ];refine wpAnyH_take (i:=3) (v:=.pointer (some ⟨b4,o4,none⟩)) rfl U U U (λ_ _ _ h=>h) (Or.inl ⟨by rfl,λwx _=>by go_simp⟩) (by assumption) ?_;simp only[Act.put,setIfInBounds_toArray,set_cons_zero,set_cons_succ];refine wpAnyH_take (i:=4) (v:=.agg cs.toArray) rfl U U U (λ_ _ _ h=>h) (yieldsIf_load_mid (by rfl) 29 (.tmp 48) rfl b4 o4 rfl cs (.array 32 5) (λ_ h=>h.1) under29 rfl hi29) (by assumption) ?_;simp only[Act.put,setIfInBounds_toArray,set_cons_zero,set_cons_succ];refine wpAnyH_ready (rs:=[1]) U Oc ?_;refine AllReadyH.cons (o:={ dst:=some 46,op:=Op.call { callee:=Callee.value (Operand.func 8),args:=#[Operand.tmp 45],argTypes:=#[24] },type:=29,pos := "audit.go:222",after:=#[{ on:=0,ground:=Ground.data }],guard:=none }) rfl (λK hK=>?_) AllReadyH.nil;go_simp;go_at_call 8
      with_reducible refine(zd1 HL few8.o HC.o).mono ?_
      rintro e wy ⟨rfl,HLy⟩
      have HRy:=HLy.o.rng;go_wp2_with fail;refine hK.out _ _ ⟨HRy,HLy⟩ (λhHeld=>?_);clear hK K;refine wpAnyH_take (i:=5) (v:=.bool false) rfl U U U (λ_ _ _ h=>h) (Or.inl ⟨by rfl,λwx _=>by go_simp⟩) (by assumption) ?_;simp only[Act.put,setIfInBounds_toArray,set_cons_zero,set_cons_succ];refine wpAnyH_done U ?_ _;refine NoPanic.normal ?_;go_wp2;go_ret2
      exact eO HV.o HLy.o HE.o HJ.o
    .have HV:=A hv;have HLT:=A hlt;clear hv hlt
     go_wp2_with(first
      | (go_at_call 44;(with_reducible refine(zfI H5.o HLT.o).mono ?_);rintro e w4 ⟨er,hne,rfl,hr⟩;have H6:=A hr;have NE:=A hne;have NB:(er != 0)=true:=bne_iff_ne.2 hne;clear hr hne)
      | (go_at_call 45;(with_reducible refine(xq H6.o.at_ NE.o).mono ?_);rintro e w5 ⟨rfl,rfl⟩))
     go_ret2
     exact nO HV.o H6.o.gr
    .have HV:=A hv;have HGT:=A hgt;clear hv hgt
     go_wp2_with(first
      | (go_at_call 44;(with_reducible refine(zfJ H5.o HGT.o).mono ?_);rintro e w4 ⟨p4,c4,rfl,hr⟩;have H6:=A hr;clear hr)
      | (go_at_call 45;(with_reducible refine(ug H6.o.at_ (PO HGT.o)).mono ?_);rintro e w5 ⟨rfl,rfl⟩))
     go_ret2
     exact nO HV.o H6.o.gr
   | succ k=>
    have hjm:(j:Int)<(Rs.length:Int):=by omega
    have hw64:RowKit.wrap64 ((j:Int)+1)=(j:Int)+1:=by unfold RowKit.wrap64;have:=H.o.few;omega
    obtain⟨R,hR⟩:∃R,Rs[j]?=some R:=⟨_,Ly I⟩
    have hmem:=LX hR;have hacc:=A (H.o.acc R hmem);by_cases hk:j<kb
    .have h5:=H4.o;rw[mn hk hR]at h5;have H5:=A h5;have hb:=A (QE (m:=N) (H.o.recs R (LX (i:=j) (by rw[getElem?_take,Y hk];exact hR))) NB.o (Left Rs kb rest (j+1)));have hhist:=A (H.o.hist j R hR);obtain⟨M,hM⟩:∃M,R.qC.bytes.length=M:=⟨_,rfl⟩
     have HM:=A hM;clear h5 hM
     go_wp2_with(first
      | (go_at_call 43;(with_reducible refine(Dq H5.o NB.o hb.o HM.o).mono ?_);rintro e w4 ⟨p4,c4,rfl,hi,hr⟩;have HI4:=A hi;have H6:=A hr;clear hi hr)
      | (go_at_call 42;(with_reducible refine(zcp H6.o HI4.o HM.o hacc.o.good hacc.o.day).mono ?_);rintro e w5 ⟨p1,n1,c1,p2,n2,c2,rfl,hr,hu,hd⟩;have H7:=A hr;have HU:=A hu;have HD:=A hd;clear hr hu hd)
      | (go_at_call 12;(with_reducible refine(zcw TK.o (H7.o.grown (zc _ _)) few8.o HE.o hacc.o.ok hhist.o ((qh.zH (zc _ _)).atS HU.o) ((qh.zH (zc _ _)).atS HD.o)).mono ?_);rintro e w6 ⟨a6,z1,z2,rfl,hr⟩;have H8:=A hr;clear hr))
     go_roundg k
     case measure=>omega
     case rel=>exact⟨j+1,a6,es++[(nr R,z1,z2)],I,I,(by rw[hw64];rfl),rfl,rQ HE.o hR,H8.o⟩
    .have hk2:RowKit.Hid (j=kb):=A I;have h5:=H4.o;rw[hk2.o,fD]at h5;have H5:=A h5;have hbn:=A (H.o.cut I);clear h5
     go_wp2_with(first
      | (go_at_call 43;(with_reducible refine(P9 H5.o NB.o hbn.o.1).mono ?_);rintro e w4 ⟨er,hne,rfl,hr⟩;have H6:=A hr;clear hr hne)
      | (go_at_call 42;(with_reducible refine(zep H6.o).mono ?_);rintro e w5 ⟨rfl,hr⟩;have H7:=A hr;clear hr)
      | (go_at_call 12;(with_reducible refine(zeE (H7.o.grown (zc _ _)) few8.o).mono ?_);rintro e w6 ⟨rfl,hr⟩;have H8:=A hr;clear hr))
     go_ret2
     exact nO hbn.o.2 H8.o.gr
end RD
end
end Go.AEv
