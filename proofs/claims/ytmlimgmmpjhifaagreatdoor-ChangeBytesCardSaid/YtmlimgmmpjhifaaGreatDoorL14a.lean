/- Changes, their encodings and texts: calls and runs (L14a). Conditions: those of each theorem. -/
import Derived.Test.YtmlimgmmpjhifaaGreatDoorH13x0
import Derived.Test.YtmlimgmmpjhifaaGreatDoorL13a
set_option maxHeartbeats 16000000
set_option maxRecDepth 100000
set_option linter.all false
namespace Go.AEv
section
open Go Go.Proofs TR
open Go.AuditPlain (put zw qg)
namespace MK
open Go.AEv.GT (zO qq)
open RD (In qe)
attribute [local go_sem ↓] Go.wp_at_zero Go.wp_at_succ
theorem xZ {x:Ch} (h:x.Ok):x.k=1∨x.k=2∨x.k=3∨x.k=4∨x.k=5∨x.k=6∨x.k=7∨x.k=8∨x.k=9∨x.k=10∨x.k=11∨x.k=12∨x.k=13∨x.k=14∨x.k=15∨x.k=16∨x.k=17∨x.k=18:=by
 have:=h.k0
 have:=h.k1
 omega
theorem wU {w:World}{x:Ch} (hx:x.Ok) (hp:Pv x):Calls Tryz.prog 14 #[.agg x.cells.toArray] w (GrV (.string (zT (qm x))) w):=by
 rcases xZ hx with h | h | h | h | h | h | h | h | h | h | h | h | h | h | h | h | h | h
 ·exact oQ hx hp h
 ·exact oP hx hp h
 ·exact oO hx hp h
 ·exact oN hx hp h
 ·exact oM hx hp h
 ·exact oL hx hp h
 ·exact oK hx hp h
 ·exact oJ hx hp h
 ·exact oI hx hp h
 ·exact mE hx hp h
 ·exact mD hx hp h
 ·exact mC hx hp h
 ·exact mB hx hp h
 ·exact mA hx hp h
 ·exact mz hx hp h
 ·exact my hx hp h
 ·exact mw hx hp h
 ·exact mv hx hp h
theorem Co {x:Ch} (h:x.Ok) (hp:Pv x):Tx (qm x):=by
 have hb:=h.b
 have hu:=h.u
 have hr:=h.r
 have ho:=h.o
 have hs:=h.s
 have hd:=h.d
 have h0:=h.k0
 have h1:=h.k1
 refine ⟨⟨by show 1≤x.k.toNat;omega,by show x.k.toNat≤18;omega⟩,by show x.b.toNat≤99;omega,by show x.u.toNat≤99;omega,by show x.r.toNat≤99;omega,by show x.o.toNat≤99;omega,by show x.s.toNat≤99;omega,by show x.d.toNat≤99;omega,?_,?_,fun q=>hp ?_⟩
 ·show (sb x.nm).length≤20;rw [kI];exact h.nm
 ·show (sb x.tx).length≤10000;rw [kI];exact h.tx
 ·have q:x.k.toNat=6∨x.k.toNat=7:=q
  omega
theorem wV {w:World}{c:Pc} (hc:Nrm c) (hx:Tx c) (ht:kV w):Calls Tryz.prog 12 #[.agg c.cells.toArray] w (GrV (.string (zT c)) w):=by
 rcases kinds hx.k with h | h | h | h | h | h | h | h | h | h | h | h | h | h | h | h | h | h
 ·exact oZ hc hx ht h
 ·exact oY hc hx ht h
 ·exact oX hc hx ht h
 ·exact oW hc hx ht h
 ·exact oV hc hx ht h
 ·exact oU hc hx ht h
 ·exact oT hc hx ht h
 ·exact oS hc hx ht h
 ·exact oR hc hx ht h
 ·exact mO hc hx ht h
 ·exact mN hc hx ht h
 ·exact mM hc hx ht h
 ·exact mL hc hx ht h
 ·exact mK hc hx ht h
 ·exact mJ hc hx ht h
 ·exact mI hc hx ht h
 ·exact mH hc hx ht h
 ·exact mG hc hx ht h
structure Bx (W0:World) (M:List Nat) (A B:List (Option Addr)) (w:World):Prop where
 g:Grown W0 w
 a:∀ p∈A,In w p M
 b:∀ p∈B,In w p M
theorem yH {w w2:World}{p:Option Addr}{M:List Nat} (h:In w p M) (g:Grown w w2):In w2 p M:=⟨h.1,fun hn=>by
 obtain ⟨b,o,e,hc⟩:=h.2 hn
 exact ⟨b,o,e,fun i x hx=>RD.ze (hc i x hx) g⟩⟩
theorem Bx.grown {W0 w w2:World}{M:List Nat}{A B:List (Option Addr)} (h:Bx W0 M A B w) (g:Grown w w2):Bx W0 M A B w2:=⟨h.g.trans' g,fun p m=>yH (h.a p m) g,fun p m=>yH (h.b p m) g⟩
section
variable {W0 w:World}{M:List Nat}{A B:List (Option Addr)}
def GrB (v:Value) (W0:World) (M:List Nat) (A B:List (Option Addr)) (e:Ending) (w2:World):Prop:=e = .returned v∧Bx W0 M A B w2
theorem grB {f:FuncId}{args:Array Value}{v:Value} (h:RowKit.Hid (Bx W0 M A B w)) (k:Calls Tryz.prog f args w (GrV v w)):Calls Tryz.prog f args w (GrB v W0 M A B):=k.mono fun _ _ q=>⟨q.1,h.out.grown q.2⟩
theorem b10 {x:Ch} (h:RowKit.Hid (Bx W0 M A B w)) (hx:x.Ok):Calls Tryz.prog 10 #[.agg x.cells.toArray] w (GrB (.agg (qm x).cells.toArray) W0 M A B):=grB h (BK hx)
theorem b12 {c:Pc} (h:RowKit.Hid (Bx W0 M A B w)) (hc:Nrm c) (hx:Tx c) (ht:kV W0):Calls Tryz.prog 12 #[.agg c.cells.toArray] w (GrB (.string (zT c)) W0 M A B):=grB h (wV hc hx (ht.grown h.out.g))
theorem b14 {x:Ch} (h:RowKit.Hid (Bx W0 M A B w)) (hx:x.Ok) (hp:Pv x):Calls Tryz.prog 14 #[.agg x.cells.toArray] w (GrB (.string (zT (qm x))) W0 M A B):=grB h (wU hx hp)
def BsA (W0:World) (M:List Nat) (A B:List (Option Addr)) (e:Ending) (w2:World):Prop:=∃ p c,e = .returned (.slice p M.length c)∧Bx W0 M (p::A) B w2
def BsB (W0:World) (M:List Nat) (A B:List (Option Addr)) (e:Ending) (w2:World):Prop:=∃ p c,e = .returned (.slice p M.length c)∧Bx W0 M A (p::B) w2
theorem b11 {c:Pc} (h:RowKit.Hid (Bx W0 (enc c) A B w)) (hc:Nrm c) (hk:1≤c.k) (hE:∀ y∈enc c,y<256):Calls Tryz.prog 11 #[.agg c.cells.toArray] w (BsA W0 (enc c) A B):=by
 refine (vj hc hk hE).mono ?_
 rintro e w2 ⟨p,cp,rfl,hin,g⟩
 exact ⟨p,cp,rfl,h.out.g.trans' g,fun q m=>(List.mem_cons.1 m).elim (fun e=>by rw [e];exact hin) (fun m=>yH (h.out.a q m) g),fun q m=>yH (h.out.b q m) g⟩
theorem b8 {x:Ch} (h:RowKit.Hid (Bx W0 (enc (qm x)) A B w)) (hx:x.Ok) (few:(enc (qm x)).length≤100000):Calls Tryz.prog 8 #[.agg x.cells.toArray] w (BsB W0 (enc (qm x)) A B):=by
 refine (au hx).mono ?_
 rintro e w2 ⟨p,cp,rfl,hb⟩
 obtain ⟨_,_,e2,hby,_⟩:=hb.byL few
 cases e2
 exact ⟨p,cp,rfl,h.out.g.trans' hb.g,fun q m=>yH (h.out.a q m) hb.g,fun q m=>(List.mem_cons.1 m).elim (fun e=>by rw [e];exact sZ hby) (fun m=>yH (h.out.b q m) hb.g)⟩
theorem b13 {p q:Option Addr}{c d:Nat} (h:RowKit.Hid (Bx W0 M [p] [q] w)) (hn:M≠[]) (few:M.length≤100000):Calls Tryz.prog 13 #[.slice p M.length c,.slice q M.length d] w (GrB (.bool true) W0 M [p] [q]):=by
 refine (FM (h.out.a p List.mem_cons_self) (h.out.b q List.mem_cons_self) hn few).mono fun _ _ k=>⟨k.1,h.out.grown k.2⟩
end
theorem lS {x:Ch} (h:x.Ok) (hz:Zr x):(enc (qm x)).length≤100000:=by
 have n:=fR h hz
 have h6:(qj (qm x) 6).length≤21:=by
  have:∀ j,(qj (qm x) j).length≤3*(j+1):=by
   intro j
   induction j with
   | zero=>exact yr (by have:=n.k;omega)
   | succ j ih=>
    have h2:(seg (useB (qm x).k j) (put (nth (qm x) j))).length≤3:=by
     refine QA (yr ?_)
     have:nth (qm x) j≤1000000:=by
      match j with
      | 0=>exact n.n0.1
      | 1=>exact n.n1.1
      | 2=>exact n.n2.1
      | 3=>exact n.n3.1
      | 4=>exact n.n4.1
      | _+5=>exact n.n5.1
     omega
    show (qj (qm x) j++seg (useB (qm x).k j) (put (nth (qm x) j))).length≤3*(j+1+1)
    rw [List.length_append]
    omega
  exact this 6
 have a1:=n.nm.1
 have a2:=n.tx.1
 have a3:=n.ac.1
 have a4:=n.pa.1
 have l1:=Zy (l:=(qm x).nm) (by omega)
 have l2:=Zy (l:=(qm x).tx) (by omega)
 have l3:=Zy (l:=(qm x).ac) (by omega)
 have l4:=Zy (l:=(qm x).pa) (by omega)
 have l5:(qg (qm x).dp).length=1:=by unfold qg;split<;>rfl
 have s1:=QA (u:=useB (qm x).k 6) l1
 have s2:=QA (u:=useB (qm x).k 7) l2
 have s3:(seg (useB (qm x).k 8) (zw (qm x).ac++zw (qm x).pa++qg (qm x).dp)).length≤50:=QA (by rw [List.length_append,List.length_append];omega)
 unfold enc
 rw [List.length_append,List.length_append,List.length_append]
 omega
theorem pK {w:World}{x:Ch}{p:Option Addr}{c0:Nat} (hx:x.Ok) (hz:Zr x) (hM:In w p (enc (qm x))):Calls Tryz.prog 7 #[.slice p (enc (qm x)).length c0] w (fun e w2=>e = .returned (.tuple #[.agg (if Qb (qm x) then (qm x).cells.toArray else Wo.toArray),.int .i64 (if Qb (qm x) then 0 else 6)])∧Grown w w2):=by
 have n:=fR hx hz
 have hk:1≤(qm x).k:=by have:=hx.k0;show 1≤x.k.toNat;omega
 refine (xu hM (lS hx hz)).mono ?_
 rintro e w2 ⟨⟨c,h1,h2,h3,rfl⟩ | ⟨rfl,h4⟩,g⟩
 ·have e1:=uY n h1 h3
  subst e1
  rw [uj h1]
  exact ⟨rfl,g⟩
 ·cases hf:Qb (qm x) with
  | true=>exact absurd rfl (h4 (qm x) (ri n hf) hk)
  | false=>exact ⟨rfl,g⟩
end MK
end
section
open Go Go.Proofs TR
open Go.AuditPlain (put zw qg)
namespace MK
open Go.AEv.GT (zO qq)
open RD (In qe)
attribute [local go_sem ↓] Go.wp_at_zero Go.wp_at_succ
theorem hY {W0 w:World}{M:List Nat}{A B:List (Option Addr)} (h:RowKit.Hid (Bx W0 M A B w)):Grown W0 w:=h.out.g
theorem b8c {W0 w:World}{A B:List (Option Addr)}{x:Ch}{c:Pc} (h:RowKit.Hid (Bx W0 (enc c) A B w)) (hc:c=qm x) (hx:x.Ok) (few:(enc c).length≤100000):Calls Tryz.prog 8 #[.agg x.cells.toArray] w (BsB W0 (enc c) A B):=by
 subst hc
 exact b8 h hx few
theorem DH {W0 w:World}{M:List Nat}{A B:List (Option Addr)}{x:Ch}{c:Pc} (h:RowKit.Hid (Bx W0 M A B w)) (hc:c=qm x) (hx:x.Ok):Calls Tryz.prog 10 #[.agg x.cells.toArray] w (GrB (.agg c.cells.toArray) W0 M A B):=by
 subst hc
 exact b10 h hx
theorem Gp {W0 w:World}{M:List Nat}{A B:List (Option Addr)}{x:Ch}{c:Pc} (h:RowKit.Hid (Bx W0 M A B w)) (hc:c=qm x) (hx:x.Ok) (hp:Pv x):Calls Tryz.prog 14 #[.agg x.cells.toArray] w (GrB (.string (zT c)) W0 M A B):=by
 subst hc
 exact b14 h hx hp
theorem Gr {W0 w:World}{M:List Nat}{A B:List (Option Addr)}{c:Pc} (h:RowKit.Hid (Bx W0 M A B w)) (hc:Nrz c) (hk:1≤c.k) (hf:Qb c=false):Calls Tryz.prog 11 #[.agg c.cells.toArray] w (GrB (.slice none 0 0) W0 M A B):=grB h (hJ hc hk hf)
theorem Gq {W0 w:World}{M:List Nat}{A B:List (Option Addr)}{c:Pc} (h:RowKit.Hid (Bx W0 M A B w)) (hc:Nrz c) (hk:1≤c.k) (hf:Qb c=false):Calls Tryz.prog 12 #[.agg c.cells.toArray] w (GrB (.string ⟨#[]⟩) W0 M A B):=grB h (mF hc hk hf)
theorem pJ {w:World}{x:Ch}{c:Pc}{p:Option Addr}{c0:Nat} (hc:c=qm x) (hx:x.Ok) (hz:Zr x) (hf:Qb c=true) (hM:In w p (enc c)):Calls Tryz.prog 7 #[.slice p (enc c).length c0] w (GrV (.tuple #[.agg c.cells.toArray,.int .i64 0]) w):=by
 subst hc
 have:=pK (c0:=c0) hx hz hM
 rw [hf]at this
 exact this
theorem ub {w:World}{x:Ch}{c:Pc}{p:Option Addr}{c0:Nat} (hc:c=qm x) (hx:x.Ok) (hz:Zr x) (hf:Qb c=false) (hM:In w p (enc c)):Calls Tryz.prog 7 #[.slice p (enc c).length c0] w (GrV (.tuple #[.agg Wo.toArray,.int .i64 6]) w):=by
 subst hc
 have:=pK (c0:=c0) hx hz hM
 rw [hf]at this
 exact this
theorem eC {w:World}{x:Ch}{c:Pc} (hc:c=qm x) (hx:x.Ok) (few:(enc c).length≤100000):Calls Tryz.prog 8 #[.agg x.cells.toArray] w (fun e w2=>∃ p c0,e = .returned (.slice p (enc c).length c0)∧In w2 p (enc c)∧Grown w w2):=by
 subst hc
 refine (au hx).mono ?_
 rintro e w2 ⟨p,cp,rfl,hb⟩
 obtain ⟨_,_,e2,hby,_⟩:=hb.byL few
 cases e2
 exact ⟨p,cp,rfl,sZ hby,hb.g⟩
theorem sV {w:World}{x:Ch} (hx:x.Ok) (hz:Zr x) (hf:Kx x=true):Calls Tryz.prog 9 #[.agg x.cells.toArray] w (GrV (.int .i64 0) w):=(eA hx hz).mono fun e w2 h=>by
 unfold CkP at h
 rw [hf]at h
 exact h
theorem sW {w:World}{x:Ch} (hx:x.Ok) (hz:Zr x) (hf:Kx x=false):Calls Tryz.prog 9 #[.agg x.cells.toArray] w (GrV (.int .i64 3) w):=(eA hx hz).mono fun e w2 h=>by
 unfold CkP at h
 rw [hf]at h
 exact h
theorem nD {w:World}{k0 k1 k2 k3 k4 k5:Nat}{p:Option Addr}{n c0:Nat}{L:List Nat} (hT:ow w) (ht:kV w) (hB:ByL w p n L) (hcap:n≤c0) (h0:k0<256) (h1:k1<256) (h2:k2<256) (h3:k3<256) (h4:k4<256) (h5:k5<256):Calls Tryz.prog 3 #[.agg #[.int .u8 (k0:Nat),.int .u8 (k1:Nat),.int .u8 (k2:Nat),.int .u8 (k3:Nat),.int .u8 (k4:Nat),.int .u8 (k5:Nat),.slice p n c0]] w (fun e w2=>e = .returned (.bool true)∧Grown w w2):=by
 have HT:=Lib.hid hT
 have HP:=Lib.hid ht
 have HB:=Lib.hid hB
 have X3:=Lib.hid (zn w (z:=#[.int .u8 (k0:Nat),.int .u8 (k1:Nat),.int .u8 (k2:Nat),.int .u8 (k3:Nat),.int .u8 (k4:Nat),.int .u8 (k5:Nat),.slice p n c0]) (t:=24))
 clear hT ht hB
 go_enter Tryz.func3,Tryz.ntmps3
 go_upto_region 4 with (first
  | (go_at_call 5;(with_reducible refine (ig (fh HT.out (za _ _))).mono ?_);rintro e w1 ⟨rfl,hg⟩;have G1:=Lib.hid ((za _ _).trans' hg);have y3:=zk hg X3.out;obtain ⟨c0,c1,c2,c3,c4,c5,c6⟩:=aP y3;clear hg y3)
  | (go_at_call 6;(with_reducible refine (rD (HB.out.grown G1.out) hcap h0 h1 h2 h3 h4 h5).mono ?_);rintro e w2 ⟨x,rfl,hok,hzr,hpv,hg⟩;have OK:=Lib.hid hok;have ZR:=Lib.hid hzr;have PV:=Lib.hid hpv;have G2:=Lib.hid (G1.out.trans' hg);clear hok hzr hpv hg c0 c1 c2 c3 c4 c5 c6))
 obtain ⟨c,hc⟩:∃ c,c=qm x:=⟨_,rfl⟩
 have HC:=Lib.hid hc
 have NZ:RowKit.Hid (Nrz c):=Lib.hid (by rw [hc];exact fR OK.out ZR.out)
 have KC:RowKit.Hid (1≤c.k):=Lib.hid (by rw [hc];have:=OK.out.k0;show 1≤x.k.toNat;omega)
 have FEW:RowKit.Hid ((enc c).length≤100000):=Lib.hid (by rw [hc];exact lS OK.out ZR.out)
 have FF:RowKit.Hid (Qb c=Kx x):=Lib.hid (by rw [hc];exact uW)
 have TX:RowKit.Hid (Tx c):=Lib.hid (by rw [hc];exact Co OK.out PV.out)
 have X4:=Lib.hid (zn w2 (z:=x.cells.toArray) (t:=29))
 obtain ⟨b3,hb3⟩:∃ b,b=w2.heap.size:=⟨_,rfl⟩
 obtain ⟨W3,hW3⟩:∃ W,W=w2.alloc (.cells #[.int .i64 x.k,.int .i64 x.b,.int .i64 x.u,.int .i64 x.r,.int .i64 x.o,.int .i64 x.s,.int .i64 x.d,.string x.nm,.string x.tx,.string x.ac,.string x.pa,.bool x.dp] 29):=⟨_,rfl⟩
 have R3:RowKit.Hid (zx Tryz.prog W3 (b3,0,0) 29 x.cells):=Lib.hid (by rw [hW3,hb3];exact X4.out)
 have G3:RowKit.Hid (Grown w W3):=Lib.hid (by rw [hW3];exact G2.out.trans' (za _ _))
 have P3:RowKit.Hid (kV W3):=Lib.hid (HP.out.grown G3.out)
 rw [← hW3,← hb3]
 clear hW3 hb3 X4 X3 G2 G1 HB HT HP hc
 obtain ⟨u0,u1,u2,u3,u4,u5,u6,u7,u8,u9,u10,u11⟩:=qc R3.out
 cases hf:Kx x with
 | true=>
  have FT:=Lib.hid (FF.out.trans hf)
  have FB:=Lib.hid hf
  clear hf
  go_upto_region 5 with (first
   | (go_at_call 8;(with_reducible refine (eC HC.out OK.out FEW.out).mono ?_);rintro e w4 ⟨p4,c4,rfl,hin,g4⟩;have I4:=Lib.hid hin;have G4:=Lib.hid g4;clear hin g4)
   | (go_at_call 7;(with_reducible refine (pJ HC.out OK.out ZR.out FT.out I4.out).mono ?_);rintro e w5 ⟨rfl,g5⟩;have G5:=Lib.hid (G4.out.trans' g5);clear g5))
  have HE:=Lib.hid (I4.out.1)
  have X5:=Lib.hid (zn w5 (z:=c.cells.toArray) (t:=34))
  obtain ⟨b4,hb4⟩:∃ b,b=w5.heap.size:=⟨_,rfl⟩
  obtain ⟨W6,hW6⟩:∃ W,W=w5.alloc (.cells #[.int .u8 (c.k:Nat),.int .i64 (c.n0:Nat),.int .i64 (c.n1:Nat),.int .i64 (c.n2:Nat),.int .i64 (c.n3:Nat),.int .i64 (c.n4:Nat),.int .i64 (c.n5:Nat),.string (str c.nm),.string (str c.tx),.string (str c.ac),.string (str c.pa),.bool c.dp] 34):=⟨_,rfl⟩
  have R6:RowKit.Hid (zx Tryz.prog W6 (b4,0,0) 34 c.cells):=Lib.hid (by rw [hW6,hb4];exact X5.out)
  have G6:RowKit.Hid (Grown W3 W6):=Lib.hid (by rw [hW6];exact G5.out.trans' (za _ _))
  rw [← hW6,← hb4]
  clear hW6 hb4 X5 G5 G4 I4 u0 u1 u2 u3 u4 u5 u6 u7 u8 u9 u10 u11
  obtain ⟨u0,u1,u2,u3,u4,u5,u6,u7,u8,u9,u10,u11⟩:=qc (zk G6.out R3.out)
  go_upto_region 7 with (first
   | (go_at_call 9;(with_reducible refine (sV OK.out ZR.out FB.out).mono ?_);rintro e w7 ⟨rfl,g7⟩;have G7:=Lib.hid (G6.out.trans' g7);have Q7:=Lib.hid g7;clear g7))
  clear u0 u1 u2 u3 u4 u5 u6 u7 u8 u9 u10 u11
  have HS:RowKit.Hid (∀ wx,Grown w7 wx→wx.cell? ⟨b3,0,none⟩=some (.int .i64 x.k)∧wx.cell? ⟨b3,1,none⟩=some (.int .i64 x.b)∧wx.cell? ⟨b3,2,none⟩=some (.int .i64 x.u)∧wx.cell? ⟨b3,3,none⟩=some (.int .i64 x.r)∧wx.cell? ⟨b3,4,none⟩=some (.int .i64 x.o)∧wx.cell? ⟨b3,5,none⟩=some (.int .i64 x.s)∧wx.cell? ⟨b3,6,none⟩=some (.int .i64 x.d)∧wx.cell? ⟨b3,7,none⟩=some (.string x.nm)∧wx.cell? ⟨b3,8,none⟩=some (.string x.tx)∧wx.cell? ⟨b3,9,none⟩=some (.string x.ac)∧wx.cell? ⟨b3,10,none⟩=some (.string x.pa)∧wx.cell? ⟨b3,11,none⟩=some (.bool x.dp)∧wx.cell? ⟨b4,0,none⟩=some (.int .u8 (c.k:Nat))∧wx.cell? ⟨b4,1,none⟩=some (.int .i64 (c.n0:Nat))∧wx.cell? ⟨b4,2,none⟩=some (.int .i64 (c.n1:Nat))∧wx.cell? ⟨b4,3,none⟩=some (.int .i64 (c.n2:Nat))∧wx.cell? ⟨b4,4,none⟩=some (.int .i64 (c.n3:Nat))∧wx.cell? ⟨b4,5,none⟩=some (.int .i64 (c.n4:Nat))∧wx.cell? ⟨b4,6,none⟩=some (.int .i64 (c.n5:Nat))∧wx.cell? ⟨b4,7,none⟩=some (.string (str c.nm))∧wx.cell? ⟨b4,8,none⟩=some (.string (str c.tx))∧wx.cell? ⟨b4,9,none⟩=some (.string (str c.ac))∧wx.cell? ⟨b4,10,none⟩=some (.string (str c.pa))∧wx.cell? ⟨b4,11,none⟩=some (.bool c.dp)):=Lib.hid (fun wx g=>by
   obtain ⟨u0,u1,u2,u3,u4,u5,u6,u7,u8,u9,u10,u11⟩:=qc (zk g (zk G7.out R3.out))
   obtain ⟨y0,y1,y2,y3,y4,y5,y6,y7,y8,y9,y10,y11⟩:=qc (zk g (zk Q7.out R6.out))
   exact ⟨u0,u1,u2,u3,u4,u5,u6,u7,u8,u9,u10,u11,y0,y1,y2,y3,y4,y5,y6,y7,y8,y9,y10,y11⟩)
  obtain ⟨u0,u1,u2,u3,u4,u5,u6,u7,u8,u9,u10,u11,y0,y1,y2,y3,y4,y5,y6,y7,y8,y9,y10,y11⟩:=HS.out w7 (RD.zL _)
  have B0:RowKit.Hid (Bx w7 (enc c) [] [] w7):=Lib.hid ⟨RD.zL _,fun p m=>(by cases m),fun p m=>(by cases m)⟩
  have B1:=Lib.hid (B0.out.grown (zp w7))
  have P7:RowKit.Hid (kV w7):=Lib.hid (P3.out.grown G7.out)
  have NN:RowKit.Hid (Nrm c):=Lib.hid (ri NZ.out FT.out)
  have NE:=Lib.hid (BH c)
  go_region_held3 (fun wx=>wx.cell? ⟨b3,0,none⟩=some (.int .i64 x.k)∧wx.cell? ⟨b3,1,none⟩=some (.int .i64 x.b)∧wx.cell? ⟨b3,2,none⟩=some (.int .i64 x.u)∧wx.cell? ⟨b3,3,none⟩=some (.int .i64 x.r)∧wx.cell? ⟨b3,4,none⟩=some (.int .i64 x.o)∧wx.cell? ⟨b3,5,none⟩=some (.int .i64 x.s)∧wx.cell? ⟨b3,6,none⟩=some (.int .i64 x.d)∧wx.cell? ⟨b3,7,none⟩=some (.string x.nm)∧wx.cell? ⟨b3,8,none⟩=some (.string x.tx)∧wx.cell? ⟨b3,9,none⟩=some (.string x.ac)∧wx.cell? ⟨b3,10,none⟩=some (.string x.pa)∧wx.cell? ⟨b3,11,none⟩=some (.bool x.dp)∧wx.cell? ⟨b4,0,none⟩=some (.int .u8 (c.k:Nat))∧wx.cell? ⟨b4,1,none⟩=some (.int .i64 (c.n0:Nat))∧wx.cell? ⟨b4,2,none⟩=some (.int .i64 (c.n1:Nat))∧wx.cell? ⟨b4,3,none⟩=some (.int .i64 (c.n2:Nat))∧wx.cell? ⟨b4,4,none⟩=some (.int .i64 (c.n3:Nat))∧wx.cell? ⟨b4,5,none⟩=some (.int .i64 (c.n4:Nat))∧wx.cell? ⟨b4,6,none⟩=some (.int .i64 (c.n5:Nat))∧wx.cell? ⟨b4,7,none⟩=some (.string (str c.nm))∧wx.cell? ⟨b4,8,none⟩=some (.string (str c.tx))∧wx.cell? ⟨b4,9,none⟩=some (.string (str c.ac))∧wx.cell? ⟨b4,10,none⟩=some (.string (str c.pa))∧wx.cell? ⟨b4,11,none⟩=some (.bool c.dp))
   (first | with_reducible exact ⟨u0,u1,u2,u3,u4,u5,u6,u7,u8,u9,u10,u11,y0,y1,y2,y3,y4,y5,y6,y7,y8,y9,y10,y11⟩ | with_reducible exact HS.out _ (hY (by assumption)))
   (first
    | (go_at_call 10;(with_reducible refine (DH (by assumption) HC.out OK.out).mono ?_);rintro e wq ⟨rfl,hq⟩;have BQ:=Lib.hid hq;clear hq)
    | (go_at_call 11;(with_reducible refine (b11 (by assumption) NN.out KC.out HE.out).mono ?_);rintro e wq ⟨pa,ca,rfl,hq⟩;have BQ:=Lib.hid hq;clear hq)
    | (go_at_call 8;(with_reducible refine (b8c (by assumption) HC.out OK.out FEW.out).mono ?_);rintro e wq ⟨pb,cb,rfl,hq⟩;have BQ:=Lib.hid hq;clear hq)
    | (go_at_call 13;(with_reducible refine (b13 (by assumption) NE.out FEW.out).mono ?_);rintro e wq ⟨rfl,hq⟩;have BQ:=Lib.hid hq;clear hq)
    | (go_at_call 12;(with_reducible refine (b12 (by assumption) NN.out TX.out P7.out).mono ?_);rintro e wq ⟨rfl,hq⟩;have BQ:=Lib.hid hq;clear hq)
    | (go_at_call 14;(with_reducible refine (Gp (by assumption) HC.out OK.out PV.out).mono ?_);rintro e wq ⟨rfl,hq⟩;have BQ:=Lib.hid hq;clear hq))
  all_goals (
   dsimp only [Exit.then]
   go_wp2_with fail
   go_ret
   exact ⟨rfl,G3.out.trans' (G7.out.trans' (hY (by assumption)))⟩)
 | false=>
  have FT:=Lib.hid (FF.out.trans hf)
  have FB:=Lib.hid hf
  clear hf
  go_upto_region 5 with (first
   | (go_at_call 8;(with_reducible refine (eC HC.out OK.out FEW.out).mono ?_);rintro e w4 ⟨p4,c4,rfl,hin,g4⟩;have I4:=Lib.hid hin;have G4:=Lib.hid g4;clear hin g4)
   | (go_at_call 7;(with_reducible refine (ub HC.out OK.out ZR.out FT.out I4.out).mono ?_);rintro e w5 ⟨rfl,g5⟩;have G5:=Lib.hid (G4.out.trans' g5);clear g5))
  obtain ⟨W6,hW6⟩:∃ W,W=w5.alloc (.cells Wo.toArray 34):=⟨_,rfl⟩
  have G6:RowKit.Hid (Grown W3 W6):=Lib.hid (by rw [hW6];exact G5.out.trans' (za _ _))
  have hW6':W6=w5.alloc (.cells #[.int .u8 0,.int .i64 0,.int .i64 0,.int .i64 0,.int .i64 0,.int .i64 0,.int .i64 0,.string ⟨#[]⟩,.string ⟨#[]⟩,.string ⟨#[]⟩,.string ⟨#[]⟩,.bool false] 34):=hW6
  rw [← hW6']
  clear hW6 hW6' G5 G4 I4 u0 u1 u2 u3 u4 u5 u6 u7 u8 u9 u10 u11
  obtain ⟨u0,u1,u2,u3,u4,u5,u6,u7,u8,u9,u10,u11⟩:=qc (zk G6.out R3.out)
  have B0:RowKit.Hid (Bx W6 (enc c) [] [] W6):=Lib.hid ⟨RD.zL _,fun p m=>(by cases m),fun p m=>(by cases m)⟩
  have HS:RowKit.Hid (∀ wx,Grown W6 wx→wx.cell? ⟨b3,0,none⟩=some (.int .i64 x.k)∧wx.cell? ⟨b3,1,none⟩=some (.int .i64 x.b)∧wx.cell? ⟨b3,2,none⟩=some (.int .i64 x.u)∧wx.cell? ⟨b3,3,none⟩=some (.int .i64 x.r)∧wx.cell? ⟨b3,4,none⟩=some (.int .i64 x.o)∧wx.cell? ⟨b3,5,none⟩=some (.int .i64 x.s)∧wx.cell? ⟨b3,6,none⟩=some (.int .i64 x.d)∧wx.cell? ⟨b3,7,none⟩=some (.string x.nm)∧wx.cell? ⟨b3,8,none⟩=some (.string x.tx)∧wx.cell? ⟨b3,9,none⟩=some (.string x.ac)∧wx.cell? ⟨b3,10,none⟩=some (.string x.pa)∧wx.cell? ⟨b3,11,none⟩=some (.bool x.dp)):=Lib.hid (fun wx g=>qc (zk g (zk G6.out R3.out)))
  go_wp2_with (first
   | (go_at_call 9;(with_reducible refine (grB (by assumption) (sW OK.out ZR.out FB.out)).mono ?_);rintro e wq ⟨rfl,hq⟩;have BQ:=Lib.hid hq;clear hq u0 u1 u2 u3 u4 u5 u6 u7 u8 u9 u10 u11;obtain ⟨u0,u1,u2,u3,u4,u5,u6,u7,u8,u9,u10,u11⟩:=HS.out wq (hY BQ))
   | (go_at_call 10;(with_reducible refine (DH (by assumption) HC.out OK.out).mono ?_);rintro e wq ⟨rfl,hq⟩;have BQ:=Lib.hid hq;clear hq u0 u1 u2 u3 u4 u5 u6 u7 u8 u9 u10 u11;obtain ⟨u0,u1,u2,u3,u4,u5,u6,u7,u8,u9,u10,u11⟩:=HS.out wq (hY BQ))
   | (go_at_call 11;(with_reducible refine (Gr (by assumption) NZ.out KC.out FT.out).mono ?_);rintro e wq ⟨rfl,hq⟩;have BQ:=Lib.hid hq;clear hq u0 u1 u2 u3 u4 u5 u6 u7 u8 u9 u10 u11;obtain ⟨u0,u1,u2,u3,u4,u5,u6,u7,u8,u9,u10,u11⟩:=HS.out wq (hY BQ))
   | (go_at_call 12;(with_reducible refine (Gq (by assumption) NZ.out KC.out FT.out).mono ?_);rintro e wq ⟨rfl,hq⟩;have BQ:=Lib.hid hq;clear hq u0 u1 u2 u3 u4 u5 u6 u7 u8 u9 u10 u11;obtain ⟨u0,u1,u2,u3,u4,u5,u6,u7,u8,u9,u10,u11⟩:=HS.out wq (hY BQ)))
  go_ret
  exact ⟨rfl,G3.out.trans' (G6.out.trans' (hY (by assumption)))⟩
end MK
end
end Go.AEv
namespace Go.Proofs.YtmlimgmmpjhifaaGreatDoor
open Go.ChangeShapes Go.WideShapes Go.ChangeAt Go.RowKit
open Go.AEv.MK (kV)
theorem aH {W:World} (h:laidMetH Tryz.prog Rows.changeReadsRow.laid W):kV W:=by
 rw [MakeChecks.laidMetH_plain _ _ _ wn]at h
 obtain ⟨ps,⟨g0,t0,cs0,f0,p0,q0,hg0,ht0,hv0,hd0,⟨g1,t1,cs1,f1,p1,q1,hg1,ht1,hv1,hd1,⟨g2,t2,cs2,f2,p2,q2,hg2,ht2,hv2,hd2,_⟩,_⟩,_⟩,_⟩:=h
 clear hd0 hd1
 obtain rfl:=Option.some.inj ((show Tryz.prog.globalNamed "internal/strconv.uint64pow10" = some 1 by kernel_rfl).symm.trans hg2)
 obtain rfl:=Option.some.inj ((show (Tryz.prog.globals[1]?).map (·.type)=some 377 by kernel_rfl).symm.trans ht2)
 have h1:=AEv.Qe (zs:=AEv.MK.lj.map Int.ofNat) Tryz.underlying377 Tryz.underlying93 c93 hd2 (by kernel_rfl)
 obtain ⟨xs,m,_,_,hlen,_⟩:=DataW.trod_array Tryz.underlying377 hd2
 have k377:Tryz.prog.cellsOf 377=20:=by kernel_rfl
 rw [k377]at hlen
 have hz:AEv.MK.lj.map Int.ofNat=Lib.pow10Tab:=by decide
 rw [hz]at h1
 have hl:Lib.pow10Tab.length=20:=Lib.pow10Tab_length
 have e:cs2.toList=Lib.pow10Tab.map fun z=>Value.int .u64 z:=by
  apply List.ext_getElem?
  intro j
  rw [List.getElem?_map]
  by_cases hj:j<20
  ·obtain ⟨z,hzj⟩:∃ z,Lib.pow10Tab[j]? = some z:=⟨_,List.getElem?_eq_getElem (by omega)⟩
   rw [h1 j z hzj,hzj]
   rfl
  ·rw [List.getElem?_eq_none (by omega),List.getElem?_eq_none (by omega)]
   rfl
 show W.var? Tryz.prog "internal/strconv.uint64pow10" = _
 rw [hv2]
 congr 1
 apply Array.toList_inj.1
 rw [e]
end Go.Proofs.YtmlimgmmpjhifaaGreatDoor
namespace Go.Proofs.YtmlimgmmpjhifaaGreatDoor
open Go.ChangeShapes Go.WideShapes Go.ChangeAt Go.RowKit
theorem wnR:(Rows.changeBytesRow.laid.all fun x=>x.2.handleName?.isNone)=true:=by kernel_rfl
theorem lifted (os:Os) (started:os.Started) (H:Type) (enc:TypeId×Value→H) :
  ReturnsInHanded {} Tryz.checked os 3 .any (fun w args=>(Rows.changeBytesSpec.pre enc Tryz.prog Tryz.f3 [] false w args∧laidMetH Tryz.prog Rows.changeBytesRow.laid w)∧sizedMet enc Tryz.prog Tryz.f3 (OpenSpec.ofChange Rows.changeBytesSpec) false w args)
   (Rows.changeBytesSpec.post enc Tryz.prog Tryz.f3 false true false false):=by
 refine AEv.W2 (C:=Tryz.checked) (tb:=4) own started (by kernel_rfl) Tryz.func3 cf2 (by kernel_rfl) rfl (by kernel_rfl) Tryz.underlying4 ?_
  (ChangeSpec.witness_shaped (enc:=enc) (C:=Tryz.checked) (os:=os) (X:=fun w _=>laidMetH Tryz.prog Rows.changeBytesRow.laid w) false (World.laidAll Tryz.prog os Rows.changeBytesRow.laid)
   #[.agg #[.int .u8 0,.int .u8 0,.int .u8 0,.int .u8 0,.int .u8 0,.int .u8 0,.slice none 0 0]] 8 (World.laidAll_os _ _ _)
   (World.shaped_of_ZipB (wz os) (wh os)) (wo os) (wp os H enc) (ws os H enc)
   (by rw [MakeChecks.laidMetH_plain _ _ _ wnR];exact laidMet_laidAll _ (wf os) (wi os))) ?_
 ·intro ds hds
  have hds:ds.length=1:=by rw [hds,Tryz.params3];rfl
  match ds,hds with
  | [_],_=>rfl
 ·intro W base args ds ps hval0 hA0 hL hsh
  have hval:∀ (j:Nat) t v,Tryz.f3.params[j]? = some t→args[j]? = some v→Value.okWide Tryz.prog W .any base t v:=hval0
  have hA:DataW.TrodAll enc Tryz.prog W 0 (fun _=>true) true Tryz.f3.params.toList args.toList ds ps:=hA0
  rw [Tryz.params3]at hA hval
  obtain ⟨v0,vs0,d0,ds0,p0,q0,hargs,rfl,rfl,h0,r0⟩:=trodAll_cons hA
  obtain ⟨rfl,rfl,rfl⟩:=trodAll_nil r0
  obtain rfl:args = #[v0]:=by cases args;simp_all
  obtain ⟨k0,k1,k2,k3,k4,k5,pa,na,ca,La,rfl,g0,g1,g2,g3,g4,g5,hca,hBa⟩:=pU (hval 0 24 v0 rfl rfl) h0
  exact (AEv.MK.nD (aG hL hsh) (aH hL) hBa hca g0 g1 g2 g3 g4 g5).mono fun _ _ h=>⟨h.2,h.1⟩
end Go.Proofs.YtmlimgmmpjhifaaGreatDoor
