/- Trails of an audit: calls and runs (H1x0). Conditions: those of each theorem. -/
import Derived.Test.YtaffhpgaagnjfaaGreatDoorL1b
open List Go.Lib Go.Proofs.Tryz
set_option maxHeartbeats 4000000
set_option maxRecDepth 1000000
namespace Go.AEv
section
open Go Go.Proofs TR
def zBc(w0:World)(m:Nat)(g:Nat)(t want i:Value)(w:World):Prop:=∃(j k:Nat) (q:Option Addr) (c:Nat) (es fs:List Ent),j+g=m/\k=fs.length/\k<=j/\i = .int .i64 j/\want = .slice q k c/\St (own w0) w0 w t want es fs
def zsr(w0:World)(e:Ending)(w':World):Prop:=∃t want es fs,e = .returned (.tuple #[t,want])/\St (own w0) w0 w' t want es fs/\fs.length<=8
def zgX(p:Addr)(j:Nat)(x:JT)(w:World):Prop:=
 w.cell? (p.add (j*14))=some (.int .u8 (x.ten:Nat))/\w.cell? ⟨(p.add (j*14)).block,(p.add (j*14)).off+1,none⟩=some (.int .u8 (x.ver:Nat))/\w.cell? ⟨(p.add (j*14)).block,(p.add (j*14)).off+2,none⟩=some (.int .u8 (x.day:Nat)) /\
 w.cell? ⟨(p.add (j*14)).block,(p.add (j*14)).off+3,none⟩=some (.int .u8 (x.odd:Nat))/\w.cell? ⟨(p.add (j*14)).block,(p.add (j*14)).off+4,none⟩=some (.int .u8 (x.rs:Nat))/\w.cell? ⟨(p.add (j*14)).block,(p.add (j*14)).off+5,none⟩=some (.int .u8 (x.ra:Nat)) /\
 w.cell? ⟨(p.add (j*14)).block,(p.add (j*14)).off+6,none⟩=some (.int .u8 (x.rp:Nat))/\w.cell? ⟨(p.add (j*14)).block,(p.add (j*14)).off+7,none⟩=some (.bool x.granted)/\w.cell? ⟨(p.add (j*14)).block,(p.add (j*14)).off+8,none⟩=some (.bool x.right) /\
 w.cell? ⟨(p.add (j*14)).block,(p.add (j*14)).off+9,none⟩=some (.int .u8 (x.user:Nat))/\w.cell? ⟨(p.add (j*14)).block,(p.add (j*14)).off+10,none⟩=some (.int .u8 (x.perm:Nat))/\w.cell? ⟨(p.add (j*14)).block,(p.add (j*14)).off+11,none⟩=some (.slice x.u.p x.u.n x.u.c) /\
 w.cell? ⟨(p.add (j*14)).block,(p.add (j*14)).off+12,none⟩=some (.slice x.d.p x.d.n x.d.c)/\w.cell? ⟨(p.add (j*14)).block,(p.add (j*14)).off+13,none⟩=some (.bool x.why)
structure zsA(w0:World)(p:Addr)(j:Nat)(x:JT):Prop where
 ok:∀m,1<=m->m<=8->JT.Ok { x with num:=m }
 u:x.u.In w0
 d:x.d.In w0
 cells:zgX p j x w0
theorem zkD{p:Addr}{j:Nat}{x:JT}{w w2:World}(h:zgX p j x w)(g:Grown w w2):zgX p j x w2:=by
 have key:∀ {a:Addr}{v:Value},w.cell? a=some v->w2.cell? a=some v:=by
  intro a v h
  have hl:a.block<w.heap.size:=by
   unfold World.cell? at h;split at h
   .rename_i hh;exact(Array.getElem?_eq_some_iff.1 hh).1
   .cases h
  unfold World.cell? at h ⊢;rw[g.old _ hl];exact h
 obtain⟨m,c1,l,c3,c4,c5,k,i,c8,f,e,d,c,b⟩:=h;exact⟨key m,key c1,key l,key c3,key c4,key c5,key k,key i,key c8,key f,key e,key d,key c,key b⟩
theorem zjx(p:Addr)(n c m:Nat)(w0 w:World)(gw:Grown w0 w)(hB:w0.heap.size<=w.heap.size)(hm:min (n:Int) 8=(m:Int))(hmn:m<=n)(hm8:m<=8)(hnc:n<=c)(hk:Z6 w0)(h0:Wx w0)(hit:∀j,j<n->∃x,zsA w0 p j x):Calls prog 7 #[.slice (some p) n c,.slice none 0 0] w (zsr w0):=by
 have hk':=hid hk;have h0':=hid h0;have hit':=hid hit;have gw':=hid gw;clear hk h0 hit gw;go_enter func7,ntmps7
 go_wp2_with((with_reducible refine(TC.KM (B:=own w0) (fun c hc=>Nat.le_trans hB hc) (hk'.out.Z4 (qy.qt gw'.out))).mono ?_);rintro e w1 ⟨h1,t,rfl,h2⟩)
 .go_loopg [6,7,21] m (fun g t want i wr=>zBc w0 m g t want i wr)
  case atStart=>exact⟨0,0,none,0,[],[],by omega,rfl,by omega,rfl,rfl,⟨gw'.out.trans' h1,fun c hc=>hc,h2,⟨fun _=>rfl,fun h=>absurd rfl h⟩,fun p n m h=>(by cases h),fun e he=>(by cases he),rfl,fun e he=>(by cases he),ziC⟩⟩
  case round=>
   obtain⟨j,k,q,cw,es,fs,hj,rfl,hkj,rfl,rfl,H⟩:=hrel;have H0:=hid H;clear H;clear hm
   cases gk with
   | zero=>
    have hjm:¬((j:Int)<(m:Int)):=by omega
    go_wp2
    go_ret2
    exact⟨u6,.slice q fs.length cw,es,fs,rfl,H0.out,by omega⟩
   | succ g=>
    have hjm:(j:Int)<(m:Int):=by omega
    obtain⟨x,hx⟩:=hit'.out j (by omega);obtain⟨c0,c1,c2,c3,c4,c5,c6,c7,c8,c9,c10,c11,c12,c13⟩:=zkD hx.cells H0.out.g;have hx':=hid hx;clear hx;have few7:RowKit.Hid (fs.length<=7):=hid (by omega);have few8:RowKit.Hid (es.length<=8):=hid (by have:=congrArg List.length H0.out.same;simp at this;omega);have hk8:RowKit.Hid (fs.length<=7):=hid (by omega)
    go_wp2_with(first
     | (go_at_call 24;(with_reducible refine(zzE h0'.out x hx'.out.ok hx'.out.u hx'.out.d hk8.out (H0.out.grown (zE _ _))).mono ?_);rintro e w2 ⟨R,p1,p2,n1,n2,d1,d2,rfl,hg⟩;have H1:=hid hg;clear hg)
     | (go_at_call 25;(with_reducible refine(zyj w2.heap.size (H1.out.grown (zE _ _)) (zmX w2 R p1 p2 n1 n2 d1 d2)).mono ?_);rintro e w3 ⟨q1,q2,m1,m2,f1,f2,rfl,hg,hu1,hu2⟩;have H2:=hid hg;have U1:=hid hu1;have U2:=hid hu2;clear hg hu1 hu2)
     | (go_at_call 12;(with_reducible refine(zA3 hk'.out w2.heap.size few8.out H2.out.1 H2.out.2 U1.out U2.out).mono ?_);rintro e w4 (⟨er,e1,e3,e2,rfl,hg,hb⟩|⟨ad,z1,z2,e2,rfl,hg,hb,ht⟩)<;>(obtain⟨b0,b1,b2,b3,b4,b5,b6,b7,b8,b9,b10,b11,b12,b13⟩:=hb.cells;have H3:=hid hg;have HB3:=hid hb;have HN:=hid (zsK H1.out);clear hg hb;try(have HT:=hid ht;clear ht)))
     | (go_at_call 26;(with_reducible refine(zwt w2.heap.size few8.out HN.out H3.out e2 HB3.out HT.out).mono ?_);rintro e w5 ⟨rfl,hg,hb,ht⟩;clear b0 b1 b2 b3 b4 b5 b6 b7 b8 b9 b10 b11 b12 b13;obtain⟨b0,b1,b2,b3,b4,b5,b6,b7,b8,b9,b10,b11,b12,b13⟩:=hb.cells;have H4:=hid hg;have HB4:=hid hb;have HT4:=hid ht;clear hg hb ht)
     | (go_at_call 26;(with_reducible refine(zvG er w2.heap.size few8.out HN.out H3.out e2 HB3.out H3.out.st.tr).mono ?_);rintro e w5 ⟨rfl,hg,hb,ht⟩;clear b0 b1 b2 b3 b4 b5 b6 b7 b8 b9 b10 b11 b12 b13;obtain⟨b0,b1,b2,b3,b4,b5,b6,b7,b8,b9,b10,b11,b12,b13⟩:=hb.cells;have H4:=hid hg;have HB4:=hid hb;have HT4:=hid ht;clear hg hb ht)
     | (at_builtin;refine znc _ _ _ w5.heap.size rfl rfl (VU (zE _ _) H4.out.st.rows) few7.out rfl (zmX w5 R p1 p2 n1 n2 d1 d2) (zo6 H4.out.up H4.out.down) ?_;intro qq cc w6 hr hq hw;have H5:=hid hr;have HQ:=hid hq;have HW:=hid hw;clear hr hq hw))
    .go_roundg g
     case measure=>omega
     case rel=>exact⟨j+1,fs.length,q,cw,es,fs,by omega,rfl,by omega,rfl,rfl,H4.out.st⟩
    .go_roundg g
     case measure=>omega
     case rel=>exact⟨j+1,fs.length+1,some qq,cc,es++[(R,z1,z2)],fs++[(R,.slice p1 n1 d1,.slice p2 n2 d2)],by omega,by simp,by omega,rfl,rfl,St.push (H4.out.grown (zE _ _)) e2 (Zw (zE _ _) HT4.out) H5.out HQ.out HW.out⟩
theorem zna(w0 w:World)(gw:Grown w0 w)(hB:w0.heap.size<=w.heap.size)(hk:Z6 w0):Calls prog 7 #[.slice none 0 0,.slice none 0 0] w (zsr w0):=by
 have hk':=hid hk;have gw':=hid gw;clear hk gw;go_enter func7,ntmps7
 go_wp2_with((with_reducible refine(TC.KM (B:=own w0) (fun c hc=>Nat.le_trans hB hc) (hk'.out.Z4 (qy.qt gw'.out))).mono ?_);rintro e w1 ⟨h1,t,rfl,h2⟩)
 .go_loopg [6,7,21] 0 (fun g t want i wr=>zBc w0 0 g t want i wr)
  case atStart=>exact⟨0,0,none,0,[],[],by omega,rfl,by omega,rfl,rfl,⟨gw'.out.trans' h1,fun c hc=>hc,h2,⟨fun _=>rfl,fun h=>absurd rfl h⟩,fun p n m h=>(by cases h),fun e he=>(by cases he),rfl,fun e he=>(by cases he),ziC⟩⟩
  case round=>
   obtain⟨j,k,q,cw,es,fs,hj,rfl,hkj,rfl,rfl,H⟩:=hrel;have H0:=hid H;clear H;have hj0:j=0:=by omega
   subst hj0;go_wp2
   go_ret2
   exact⟨u6,.slice q fs.length cw,es,fs,rfl,H0.out,by omega⟩
end
section
open Go Go.Proofs TR
namespace RD
def zsz(w:World)(r:Option (Nat×Nat))(e:Ending)(w2:World):Prop:=w2=w/\e = .returned (.tuple #[.int .u64 ((r.getD (0,0)).1:Nat),.int .i64 ((r.getD (0,0)).2:Nat)])
theorem zby{w:World}{r:Option (Nat×Nat)}(h:r=none):zsz w r (.returned (.tuple #[.int .u64 0,.int .i64 0])) w:=by subst h;exact⟨rfl,rfl⟩
theorem zth{w:World}{r:Option (Nat×Nat)}{v k:Nat}(h:r=some (v,k+1)):zsz w r (.returned (.tuple #[.int .u64 (v:Nat),.int .i64 ((k:Int)+1)])) w:=by subst h;exact⟨rfl,rfl⟩
theorem zti{v x:Nat}(h:decide ((144115188075855871:Int)<(v:Int))=false):v*128+x % 128<18446744073709551616:=by
 have:=of_decide_eq_false h;omega
theorem zh0(w : World)(a : Addr)(b o c : Nat)(L : List Nat)(hL : In w (some ⟨b, o, none⟩) L)(hlen : L.length <= 100000)(hc : w.cell? a = some (.slice (some ⟨b, o, none⟩) L.length c)) :
    Calls prog 89 #[.pointer (some a)] w (zsz w (num 0 0 L)) := by
  have HL := hid hL;clear hL;go_enter func89, ntmps89
  go_wp2
  go_loopg [4, 12] L.length (fun g s4 s12 wr => ∃(v k : Nat), k + g = L.length /\ s12 = .int .i64 k /\ s4 = .int .u64 v /\ v < 18446744073709551616 /\ num 0 0 L = num v k (L.drop k) /\ wr = w)
  case atStart => exact⟨0, 0, by omega, rfl, rfl, by omega, rfl, rfl⟩
  case round =>
    obtain⟨v, k, hk, rfl, rfl, hv, hn, rfl⟩ := hrel
    cases gk with
    | zero =>
      have hkk : ¬((k : Int) < (L.length : Int)) := by omega
      have he : num 0 0 L = none := by rw[hn, drop_eq_nil_of_le (by omega)]; rfl
      have HE := hid he;clear he hn;go_wp2
      go_ret2
      exact zby HE.out
    | succ g =>
      have hkk : (k : Int) < (L.length : Int) := by omega
      obtain⟨x, hx⟩ : ∃x, L[k]?=some x := ⟨_, List.getElem?_eq_getElem (by omega)⟩
      have hd : L.drop k = x :: L.drop (k + 1) := by rw[drop_eq_getElem_cons (by omega)]; congr 1; rw[List.getElem?_eq_getElem (by omega)] at hx; exact Option.some.inj hx
      have hx256 : x < 256 := HL.out.1 x (List.mem_of_getElem? hx)
      have hcx : wr.cell? ⟨b, o + k, none⟩ = some (.int .u8 (x : Nat)) := by
        obtain⟨b', o', e, h⟩ := HL.out.2 (by intro h; rw[h] at hx; cases hx);cases e;exact h k x hx
      obtain⟨bk, hbk⟩ : ∃b, ((k : Int) == 0) = b := ⟨_, rfl⟩
      obtain⟨bx, hbx⟩ : ∃b, ((x : Int) == 128) = b := ⟨_, rfl⟩
      obtain⟨bv, hbv⟩ : ∃b, decide ((144115188075855871 : Int) < (v : Int)) = b := ⟨_, rfl⟩
      obtain⟨bl, hbl⟩ : ∃b, decide ((x : Int) < 128) = b := ⟨_, rfl⟩
      have hstep := zqq (l := L.drop (k + 1)) hbk hbx hbv hbl;rw[<- hd, <- hn] at hstep;have HS := hid hstep;have hbits : bv = false -> bits .or .u64 (IntKind.u64.wrap ((v : Int) * 128)) (IntKind.u64.wrap (bits .and .u8 (x : Int) 127)) = ((v * 128 + x % 128 : Nat) : Int) := fun h => zve (by rw[h] at hbv; have := of_decide_eq_false hbv; omega) hx256;clear hd hn hx hstep
      cases bv with
      | true => cases bk <;> cases bx <;> cases bl <;> (go_wp2; go_ret2; exact zby HS.out)
      | false =>
        have hb := hbits rfl;clear hbits
        cases bk <;> cases bx <;> cases bl <;> first
          | (go_wp2; go_ret2; exact zby HS.out)
          | (go_wp2; go_ret2; exact zth HS.out)
          | (go_wp2; go_roundg g
             case measure => omega
             case rel => exact⟨v * 128 + x % 128, k + 1, by omega, rfl, rfl, zti hbv, HS.out, rfl⟩)
theorem zh1(w:World)(a:Addr)(p:Option Addr)(c:Nat)(hc:w.cell? a=some (.slice p 0 c)):Calls prog 89 #[.pointer (some a)] w (zsz w none):=by
 go_enter func89,ntmps89
 go_wp2
 go_loopg [12] 0 (fun g s12 wr=>s12 = .int .i64 0/\wr=w)
 case atStart=>exact⟨rfl,rfl⟩
 case round=>
  obtain⟨rfl,rfl⟩:=hrel;go_wp2
  go_ret2
  exact zby rfl
theorem zaQ{w:World}{a:Addr}{p:Option Addr}{c:Nat}{L:List Nat}(d:In w p L)(hlen:L.length<=100000)(hc:w.cell? a=some (.slice p L.length c)):Calls prog 89 #[.pointer (some a)] w (zsz w (num 0 0 L)):=by
 by_cases h:L=[]
 .subst h;exact zh1 w a p c hc
 .obtain⟨b,o,rfl,_⟩:=d.2 h;exact zh0 w a b o c L d hlen hc
end RD
end
end Go.AEv
