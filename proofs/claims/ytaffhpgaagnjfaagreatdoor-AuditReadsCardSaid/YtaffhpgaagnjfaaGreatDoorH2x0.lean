/- Trails: H2x0. Conditions: each theorem's. -/
import Derived.Test.YtaffhpgaagnjfaaGreatDoorL2a
set_option linter.all false
open List Go.Proofs.Tryz
open Go.Proofs
set_option maxHeartbeats 4000000
set_option maxRecDepth 1000000
namespace Go.AEv
variable{w:Ea}
open Go
section
open TR
def zio(w0:Ea)(m:Nat)(g:Nat)(t want i:Ei)(w:Ea):Prop:=∃(j k:Nat) (q:Ed) (c:Nat) (es fs:List Ent),j+g=m/\k=fs.length/\k<=j/\i = .int .i64 j/\want = .slice q k c/\St (own w0) w0 w t want es fs
def RG(w0:Ea)(e:Ew)(w':Ea):Prop:=∃t want es fs,e = .returned (.tuple #[t,want])/\St (own w0) w0 w' t want es fs/\fs.length<=8
def pV(p:Addr)(j:Nat)(x:J2)(w:Ea):Prop:=
 w.cell? (p.add (j*14))=some (.int .u8 (x.ten:Nat))/\w.cell? ⟨(p.add (j*14)).block,(p.add (j*14)).off+1,none⟩=some (.int .u8 (x.ver:Nat))/\w.cell? ⟨(p.add (j*14)).block,(p.add (j*14)).off+2,none⟩=some (.int .u8 (x.day:Nat)) /\
 w.cell? ⟨(p.add (j*14)).block,(p.add (j*14)).off+3,none⟩=some (.int .u8 (x.odd:Nat))/\w.cell? ⟨(p.add (j*14)).block,(p.add (j*14)).off+4,none⟩=some (.int .u8 (x.rs:Nat))/\w.cell? ⟨(p.add (j*14)).block,(p.add (j*14)).off+5,none⟩=some (.int .u8 (x.ra:Nat)) /\
 w.cell? ⟨(p.add (j*14)).block,(p.add (j*14)).off+6,none⟩=some (.int .u8 (x.rp:Nat))/\w.cell? ⟨(p.add (j*14)).block,(p.add (j*14)).off+7,none⟩=some (.bool x.granted)/\w.cell? ⟨(p.add (j*14)).block,(p.add (j*14)).off+8,none⟩=some (.bool x.right) /\
 w.cell? ⟨(p.add (j*14)).block,(p.add (j*14)).off+9,none⟩=some (.int .u8 (x.user:Nat))/\w.cell? ⟨(p.add (j*14)).block,(p.add (j*14)).off+10,none⟩=some (.int .u8 (x.perm:Nat))/\w.cell? ⟨(p.add (j*14)).block,(p.add (j*14)).off+11,none⟩=some (.slice x.u.p x.u.n x.u.c) /\
 w.cell? ⟨(p.add (j*14)).block,(p.add (j*14)).off+12,none⟩=some (.slice x.d.p x.d.n x.d.c)/\w.cell? ⟨(p.add (j*14)).block,(p.add (j*14)).off+13,none⟩=some (.bool x.why)
structure RX(w0:Ea)(p:Addr)(j:Nat)(x:J2):Prop where
 ok:∀m,1<=m->m<=8->J2.Ok { x with num:=m }
 u:x.u.In w0
 d:x.d.In w0
 cells:pV p j x w0
def wP{p:Addr}{j:Nat}{x:J2}{w2:Ea}(h:pV p j x w)(g:Grown w w2):pV p j x w2:=by
 have key:∀ {a:Addr}{v:Ei},w.cell? a=some v->w2.cell? a=some v:=by
  intro a v h
  have hl:a.block<w.heap.size:=by
   unfold World.cell? at h;split at h
   .rename_i hh;exact(LO.1 hh).1
   .cases h
  unfold World.cell? at h ⊢;rw[g.old _ hl];exact h
 obtain⟨c0,c1,c2,c3,c4,c5,f,e,c8,c9,c10,d,c,b⟩:=h;exact⟨key c0,key c1,key c2,key c3,key c4,key c5,key f,key e,key c8,key c9,key c10,key d,key c,key b⟩
def ve(p:Addr)(n c m:Nat)(w0 w:Ea)(gw:Grown w0 w)(hB:w0.heap.size<=w.heap.size)(hm:min (n:Int) 8=(m:Int))(hmn:m<=n)(hm8:m<=8)(hnc:n<=c)(hk:kG w0)(h0:WO w0)(hit:∀j,j<n->∃x,RX w0 p j x):Calls prog 7 #[.slice (some p) n c,.slice none 0 0] w (RG w0):=by
 have hk':=A hk;have h0':=A h0;have hit':=A hit;have gw':=A gw;clear hk h0 hit gw;go_enter func7,ntmps7;go_wp2_with((with_reducible refine(TC.Up (B:=own w0) (λc hc=>Lj hB hc) (hk'.o.Jl (qh.zH gw'.o))).mono ?_);rintro e w1 ⟨h1,t,rfl,h2⟩)
 .go_loopg [6,7,21] m (λg t want i wr=>zio w0 m g t want i wr)
  case atStart=>exact⟨0,0,none,0,[],[],I,rfl,I,rfl,rfl,⟨gw'.o.trans' h1,λc hc=>hc,h2,⟨λ_=>rfl,λh=>Ld rfl h⟩,λp n m h=>(by cases h),λe he=>(by cases he),rfl,λe he=>(by cases he),tP⟩⟩
  case round=>
   obtain⟨j,k,q,cw,es,fs,hj,rfl,hkj,rfl,rfl,H⟩:=hrel;have H0:=A H;clear H;clear hm
   cases gk with
   | zero=>
    have hjm:¬((j:Int)<(m:Int)):=by omega
    go_wp2
    go_ret2
    exact⟨u6,.slice q fs.length cw,es,fs,rfl,H0.o,I⟩
   | succ g=>
    have hjm:(j:Int)<(m:Int):=by omega
    obtain⟨x,hx⟩:=hit'.o j I;obtain⟨c0,c1,c2,c3,c4,c5,c6,c7,c8,c9,c10,c11,c12,c13⟩:=wP hx.cells H0.o.g;have hx':=A hx;clear hx;have few7:RowKit.Hid (fs.length<=7):=A I;have few8:RowKit.Hid (es.length<=8):=A (by have:=congrArg List.length H0.o.same;simp at this;omega);have hk8:RowKit.Hid (fs.length<=7):=A I
    go_wp2_with(first
     | (go_at_call 24;(with_reducible refine(zgK h0'.o x hx'.o.ok hx'.o.u hx'.o.d hk8.o (H0.o.grown (zc _ _))).mono ?_);rintro e w2 ⟨R,p1,p2,n1,n2,d1,d2,rfl,hg⟩;have H1:=A hg;clear hg)
     | (go_at_call 25;(with_reducible refine(zfF w2.heap.size (H1.o.grown (zc _ _)) (Du w2 R p1 p2 n1 n2 d1 d2)).mono ?_);rintro e w3 ⟨q1,q2,m1,m2,f1,f2,rfl,hg,hu1,hu2⟩;have H2:=A hg;have U1:=A hu1;have U2:=A hu2;clear hg hu1 hu2)
     | (go_at_call 12;(with_reducible refine(zie hk'.o w2.heap.size few8.o H2.o.1 H2.o.2 U1.o U2.o).mono ?_);rintro e w4 (⟨er,e1,e3,e2,rfl,hg,hb⟩|⟨ad,z1,z2,e2,rfl,hg,hb,ht⟩)<;>(obtain⟨b0,b1,b2,b3,b4,b5,b6,b7,b8,b9,b10,b11,b12,b13⟩:=hb.cells;have H3:=A hg;have HB3:=A hb;have HN:=A (Sk H1.o);clear hg hb;try(have HT:=A ht;clear ht)))
     | (go_at_call 26;(with_reducible refine(zdi w2.heap.size few8.o HN.o H3.o e2 HB3.o HT.o).mono ?_);rintro e w5 ⟨rfl,hg,hb,ht⟩;clear b0 b1 b2 b3 b4 b5 b6 b7 b8 b9 b10 b11 b12 b13;obtain⟨b0,b1,b2,b3,b4,b5,b6,b7,b8,b9,b10,b11,b12,b13⟩:=hb.cells;have H4:=A hg;have HB4:=A hb;have HT4:=A ht;clear hg hb ht)
     | (go_at_call 26;(with_reducible refine(zb5 er w2.heap.size few8.o HN.o H3.o e2 HB3.o H3.o.st.tr).mono ?_);rintro e w5 ⟨rfl,hg,hb,ht⟩;clear b0 b1 b2 b3 b4 b5 b6 b7 b8 b9 b10 b11 b12 b13;obtain⟨b0,b1,b2,b3,b4,b5,b6,b7,b8,b9,b10,b11,b12,b13⟩:=hb.cells;have H4:=A hg;have HB4:=A hb;have HT4:=A ht;clear hg hb ht)
     | (at_builtin;refine DT _ _ _ w5.heap.size rfl rfl (Kh (zc _ _) H4.o.st.rows) few7.o rfl (Du w5 R p1 p2 n1 n2 d1 d2) (Im H4.o.up H4.o.down) ?_;intro qq cc w6 hr hq hw;have H5:=A hr;have HQ:=A hq;have HW:=A hw;clear hr hq hw))
    .go_roundg g
     case measure=>omega
     case rel=>exact⟨j+1,fs.length,q,cw,es,fs,I,rfl,I,rfl,rfl,H4.o.st⟩
    .go_roundg g
     case measure=>omega
     case rel=>exact⟨j+1,fs.length+1,some qq,cc,es++[(R,z1,z2)],fs++[(R,.slice p1 n1 d1,.slice p2 n2 d2)],I,Oc,I,rfl,rfl,St.push (H4.o.grown (zc _ _)) e2 (Yg (zc _ _) HT4.o) H5.o HQ.o HW.o⟩
def DO(w0 w:Ea)(gw:Grown w0 w)(hB:w0.heap.size<=w.heap.size)(hk:kG w0):Calls prog 7 #[.slice none 0 0,.slice none 0 0] w (RG w0):=by
 have hk':=A hk;have gw':=A gw;clear hk gw;go_enter func7,ntmps7;go_wp2_with((with_reducible refine(TC.Up (B:=own w0) (λc hc=>Lj hB hc) (hk'.o.Jl (qh.zH gw'.o))).mono ?_);rintro e w1 ⟨h1,t,rfl,h2⟩)
 .go_loopg [6,7,21] 0 (λg t want i wr=>zio w0 0 g t want i wr)
  case atStart=>exact⟨0,0,none,0,[],[],I,rfl,I,rfl,rfl,⟨gw'.o.trans' h1,λc hc=>hc,h2,⟨λ_=>rfl,λh=>Ld rfl h⟩,λp n m h=>(by cases h),λe he=>(by cases he),rfl,λe he=>(by cases he),tP⟩⟩
  case round=>
   obtain⟨j,k,q,cw,es,fs,hj,rfl,hkj,rfl,rfl,H⟩:=hrel;have H0:=A H;clear H;have hj0:j=0:=by omega
   subst hj0;go_wp2;go_ret2
   exact⟨u6,.slice q fs.length cw,es,fs,rfl,H0.o,I⟩
end
section
open TR
namespace RD
def RS(w:Ea)(r:Option (Nat×Nat))(e:Ew)(w2:Ea):Prop:=w2=w/\e = .returned (.tuple #[.int .u64 ((r.getD (0,0)).1:Nat),.int .i64 ((r.getD (0,0)).2:Nat)])
def dn{r:Option (Nat×Nat)}(h:r=none):RS w r (.returned (.tuple #[.int .u64 0,.int .i64 0])) w:=by subst h;exact⟨rfl,rfl⟩
def Tc{r:Option (Nat×Nat)}{v k:Nat}(h:r=some (v,k+1)):RS w r (.returned (.tuple #[.int .u64 (v:Nat),.int .i64 ((k:Int)+1)])) w:=by subst h;exact⟨rfl,rfl⟩
def Td{v x:Nat}(h:decide ((144115188075855871:Int)<(v:Int))=false):v*128+x % 128<18446744073709551616:=by
 have:=of_decide_eq_false h;omega
def sP(w : World)(a : Addr)(b o c : Nat)(L : List Nat)(hL : In w (some ⟨b, o, none⟩) L)(hlen : L.length <= 100000)(hc : w.cell? a = some (.slice (some ⟨b, o, none⟩) L.length c)) :
    Calls prog 89 #[.pointer (some a)] w (RS w (num 0 0 L)) := by
  have HL := A hL;clear hL;go_enter func89, ntmps89;go_wp2
  go_loopg [4, 12] L.length (λg s4 s12 wr => ∃(v k : Nat), k + g = L.length /\ s12 = .int .i64 k /\ s4 = .int .u64 v /\ v < 18446744073709551616 /\ num 0 0 L = num v k (L.drop k) /\ wr = w)
  case atStart => exact⟨0, 0, by omega, rfl, rfl, by omega, rfl, rfl⟩
  case round =>
    obtain⟨v, k, hk, rfl, rfl, hv, hn, rfl⟩ := hrel
    cases gk with
    | zero =>
      have hkk : ¬((k : Int) < (L.length : Int)) := by omega
      have he : num 0 0 L = none := by rw[hn, drop_eq_nil_of_le I]; rfl
      have HE := A he;clear he hn;go_wp2;go_ret2
      exact dn HE.o
    | succ g =>
      have hkk : (k : Int) < (L.length : Int) := by omega
      obtain⟨x, hx⟩ : ∃x, L[k]?=some x := ⟨_, Ly I⟩
      have hd : L.drop k = x :: L.drop (k + 1) := by rw[drop_eq_getElem_cons I]; congr 1; rw[Ly I] at hx; exact Aa hx
      have hx256 : x < 256 := HL.o.1 x (LX hx)
      have hcx : wr.cell? ⟨b, o + k, none⟩ = some (.int .u8 (x : Nat)) := by
        obtain⟨b', o', e, h⟩ := HL.o.2 (by intro h; rw[h] at hx; cases hx);cases e;exact h k x hx
      obtain⟨bk, hbk⟩ : ∃b, ((k : Int) == 0) = b := ⟨_, rfl⟩
      obtain⟨bx, hbx⟩ : ∃b, ((x : Int) == 128) = b := ⟨_, rfl⟩
      obtain⟨bv, hbv⟩ : ∃b, decide ((144115188075855871 : Int) < (v : Int)) = b := ⟨_, rfl⟩
      obtain⟨bl, hbl⟩ : ∃b, decide ((x : Int) < 128) = b := ⟨_, rfl⟩
      have hstep := MU (l := L.drop (k + 1)) hbk hbx hbv hbl;rw[<- hd, <- hn] at hstep;have HS := A hstep;have hbits : bv = false -> bits .or .u64 (IntKind.u64.wrap ((v : Int) * 128)) (IntKind.u64.wrap (bits .and .u8 (x : Int) 127)) = ((v * 128 + x % 128 : Nat) : Int) := λh => zby (by rw[h] at hbv; have := of_decide_eq_false hbv; omega) hx256;clear hd hn hx hstep
      cases bv with
      | true => cases bk <;> cases bx <;> cases bl <;> (go_wp2; go_ret2; exact dn HS.o)
      | false =>
        have hb := hbits rfl;clear hbits
        cases bk <;> cases bx <;> cases bl <;> first
          | (go_wp2; go_ret2; exact dn HS.o)
          | (go_wp2; go_ret2; exact Tc HS.o)
          | (go_wp2; go_roundg g
             case measure => omega
             case rel => exact⟨v * 128 + x % 128, k + 1, by omega, rfl, rfl, Td hbv, HS.o, rfl⟩)
def sQ(w:Ea)(a:Addr)(p:Ed)(c:Nat)(hc:w.cell? a=some (.slice p 0 c)):Calls prog 89 #[.pointer (some a)] w (RS w none):=by
 go_enter func89,ntmps89
 go_wp2
 go_loopg [12] 0 (λg s12 wr=>s12 = .int .i64 0/\wr=w)
 case atStart=>exact⟨rfl,rfl⟩
 case round=>
  obtain⟨rfl,rfl⟩:=hrel;go_wp2;go_ret2
  exact dn rfl
def ck{a:Addr}{p:Ed}{c:Nat}{L:Eb}(d:In w p L)(hlen:L.length<=100000)(hc:w.cell? a=some (.slice p L.length c)):Calls prog 89 #[.pointer (some a)] w (RS w (num 0 0 L)):=by
 by_cases h:L=[]
 .subst h;exact sQ w a p c hc
 .obtain⟨b,o,rfl,_⟩:=d.2 h;exact sP w a b o c L d hlen hc
end RD
end
end Go.AEv
