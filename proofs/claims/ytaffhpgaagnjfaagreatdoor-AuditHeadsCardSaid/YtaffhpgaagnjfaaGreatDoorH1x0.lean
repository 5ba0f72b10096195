/- Writing a trail and the reference's records side by side: the call. Conditions: the items lie in memory. -/
import Derived.Test.YtaffhpgaagnjfaaGreatDoorL1b
import Derived.WalkKit
import Derived.Lib.Walk
import Derived.Deep.LoopGhost
import Derived.Lib.Hide
namespace Go.AEv
open Go Go.Proofs TR
def zwO (w0:World) (m:Nat) (g:Nat) (t want i:Value) (w:World):Prop:=∃ (j k:Nat) (q:Option Addr) (c:Nat) (es fs:List Ent),j+g=m∧k=fs.length∧k≤j∧i = .int .i64 j∧want = .slice q k c∧St (own w0) w0 w t want es fs
def zor (w0:World) (e:Ending) (w':World):Prop:=∃ t want es fs,e = .returned (.tuple #[t,want])∧St (own w0) w0 w' t want es fs∧fs.length≤8
def zeY (p:Addr) (j:Nat) (x:Jf) (w:World):Prop:=
 w.cell? (p.add (j*14))=some (.int .u8 (x.ten:Nat))∧w.cell? ⟨(p.add (j*14)).block,(p.add (j*14)).off+1,none⟩=some (.int .u8 (x.ver:Nat))∧w.cell? ⟨(p.add (j*14)).block,(p.add (j*14)).off+2,none⟩=some (.int .u8 (x.day:Nat)) ∧
 w.cell? ⟨(p.add (j*14)).block,(p.add (j*14)).off+3,none⟩=some (.int .u8 (x.odd:Nat))∧w.cell? ⟨(p.add (j*14)).block,(p.add (j*14)).off+4,none⟩=some (.int .u8 (x.rs:Nat))∧w.cell? ⟨(p.add (j*14)).block,(p.add (j*14)).off+5,none⟩=some (.int .u8 (x.ra:Nat)) ∧
 w.cell? ⟨(p.add (j*14)).block,(p.add (j*14)).off+6,none⟩=some (.int .u8 (x.rp:Nat))∧w.cell? ⟨(p.add (j*14)).block,(p.add (j*14)).off+7,none⟩=some (.bool x.granted)∧w.cell? ⟨(p.add (j*14)).block,(p.add (j*14)).off+8,none⟩=some (.bool x.right) ∧
 w.cell? ⟨(p.add (j*14)).block,(p.add (j*14)).off+9,none⟩=some (.int .u8 (x.user:Nat))∧w.cell? ⟨(p.add (j*14)).block,(p.add (j*14)).off+10,none⟩=some (.int .u8 (x.perm:Nat))∧w.cell? ⟨(p.add (j*14)).block,(p.add (j*14)).off+11,none⟩=some (.slice x.u.p x.u.n x.u.c) ∧
 w.cell? ⟨(p.add (j*14)).block,(p.add (j*14)).off+12,none⟩=some (.slice x.d.p x.d.n x.d.c)∧w.cell? ⟨(p.add (j*14)).block,(p.add (j*14)).off+13,none⟩=some (.bool x.why)
structure zox (w0:World) (p:Addr) (j:Nat) (x:Jf):Prop where
 ok:∀ m,1≤m→m≤8→Jf.Ok { x with num:=m }
 u:x.u.In w0
 d:x.d.In w0
 cells:zeY p j x w0
theorem zh6 {p:Addr}{j:Nat}{x:Jf}{w w2:World} (h:zeY p j x w) (g:Grown w w2):zeY p j x w2:=by
 have key:∀ {a:Addr}{v:Value},w.cell? a=some v→w2.cell? a=some v:=by
  intro a v h
  have hl:a.block<w.heap.size:=by
   unfold World.cell? at h
   split at h
   ·rename_i hh;exact (Array.getElem?_eq_some_iff.1 hh).1
   ·cases h
  unfold World.cell? at h ⊢
  rw [g.old _ hl]
  exact h
 obtain ⟨c0,c1,c2,c3,c4,c5,c6,c7,c8,c9,c10,c11,c12,c13⟩:=h
 exact ⟨key c0,key c1,key c2,key c3,key c4,key c5,key c6,key c7,key c8,key c9,key c10,key c11,key c12,key c13⟩
set_option maxHeartbeats 4000000 in
set_option maxRecDepth 1000000 in
theorem zg4 (p:Addr) (n c m:Nat) (w0 w:World) (gw:Grown w0 w) (hB:w0.heap.size≤w.heap.size) (hm:min (n:Int) 8=(m:Int)) (hmn:m≤n) (hm8:m≤8) (hnc:n≤c) (hk:JS w0) (h0:XO w0) (hit:∀ j,j<n→∃ x,zox w0 p j x):Calls Tryz.prog 7 #[.slice (some p) n c,.slice none 0 0] w (zor w0):=by
 have hk':=Lib.hid hk
 have h0':=Lib.hid h0
 have hit':=Lib.hid hit
 have gw':=Lib.hid gw
 clear hk h0 hit gw
 go_enter Tryz.func7,Tryz.ntmps7
 go_wp2_with ((with_reducible refine (TC.zfR (B:=own w0) (fun c hc=>Nat.le_trans hB hc) (hk'.out.XA (jf.yC gw'.out))).mono ?_);rintro e w1 ⟨h1,t,rfl,h2⟩)
 ·go_loopg [6,7,21] m (fun g t want i wr=>zwO w0 m g t want i wr)
  case atStart=>exact ⟨0,0,none,0,[],[],by omega,rfl,by omega,rfl,rfl,⟨gw'.out.trans' h1,fun c hc=>hc,h2,⟨fun _=>rfl,fun h=>absurd rfl h⟩,fun p n m h=>(by cases h),fun e he=>(by cases he),rfl,fun e he=>(by cases he)⟩⟩
  case round=>
   obtain ⟨j,k,q,cw,es,fs,hj,rfl,hkj,rfl,rfl,H⟩:=hrel
   have H0:=Lib.hid H
   clear H
   clear hm
   cases gk with
   | zero=>
    have hjm:¬ ((j:Int)<(m:Int)):=by omega
    go_wp2
    go_ret2
    exact ⟨u6,.slice q fs.length cw,es,fs,rfl,H0.out,by omega⟩
   | succ g=>
    have hjm:(j:Int)<(m:Int):=by omega
    obtain ⟨x,hx⟩:=hit'.out j (by omega)
    obtain ⟨c0,c1,c2,c3,c4,c5,c6,c7,c8,c9,c10,c11,c12,c13⟩:=zh6 hx.cells H0.out.g
    have hx':=Lib.hid hx
    clear hx
    have few7:RowKit.Hid (fs.length≤7):=Lib.hid (by omega)
    have few8:RowKit.Hid (es.length≤8):=Lib.hid (by have:=congrArg List.length H0.out.same;simp at this;omega)
    have hk8:RowKit.Hid (fs.length≤7):=Lib.hid (by omega)
    go_wp2_with (first
     | (go_at_call 24;(with_reducible refine (zvh h0'.out x hx'.out.ok hx'.out.u hx'.out.d hk8.out (H0.out.grown (jM _ _))).mono ?_);rintro e w2 ⟨R,p1,p2,n1,n2,d1,d2,rfl,hg⟩;have H1:=Lib.hid hg;clear hg)
     | (go_at_call 25;(with_reducible refine (zua w2.heap.size (H1.out.grown (jM _ _)) (zke w2 R p1 p2 n1 n2 d1 d2)).mono ?_);rintro e w3 ⟨q1,q2,m1,m2,f1,f2,rfl,hg,hu1,hu2⟩;have H2:=Lib.hid hg;have U1:=Lib.hid hu1;have U2:=Lib.hid hu2;clear hg hu1 hu2)
     | (go_at_call 12;(with_reducible refine (zwG hk'.out w2.heap.size few8.out H2.out.1 H2.out.2 U1.out U2.out).mono ?_);rintro e w4 (⟨er,e1,e3,e2,rfl,hg,hb⟩ | ⟨ad,z1,z2,e2,rfl,hg,hb,ht⟩)<;>(obtain ⟨b0,b1,b2,b3,b4,b5,b6,b7,b8,b9,b10,b11,b12,b13⟩:=hb.cells;have H3:=Lib.hid hg;have HB3:=Lib.hid hb;have HN:=Lib.hid (zoC H1.out);clear hg hb;try (have HT:=Lib.hid ht;clear ht)))
     | (go_at_call 26;(with_reducible refine (zrS w2.heap.size few8.out HN.out H3.out e2 HB3.out HT.out).mono ?_);rintro e w5 ⟨rfl,hg,hb,ht⟩;clear b0 b1 b2 b3 b4 b5 b6 b7 b8 b9 b10 b11 b12 b13;obtain ⟨b0,b1,b2,b3,b4,b5,b6,b7,b8,b9,b10,b11,b12,b13⟩:=hb.cells;have H4:=Lib.hid hg;have HB4:=Lib.hid hb;have HT4:=Lib.hid ht;clear hg hb ht)
     | (go_at_call 26;(with_reducible refine (zq8 er w2.heap.size few8.out HN.out H3.out e2 HB3.out H3.out.st.tr).mono ?_);rintro e w5 ⟨rfl,hg,hb,ht⟩;clear b0 b1 b2 b3 b4 b5 b6 b7 b8 b9 b10 b11 b12 b13;obtain ⟨b0,b1,b2,b3,b4,b5,b6,b7,b8,b9,b10,b11,b12,b13⟩:=hb.cells;have H4:=Lib.hid hg;have HB4:=Lib.hid hb;have HT4:=Lib.hid ht;clear hg hb ht)
     | (at_builtin;refine zkr _ _ _ w5.heap.size rfl rfl (WX (jM _ _) H4.out.st.rows) few7.out rfl (zke w5 R p1 p2 n1 n2 d1 d2) (zlT H4.out.up H4.out.down) ?_;intro qq cc w6 hr hq hw;have H5:=Lib.hid hr;have HQ:=Lib.hid hq;have HW:=Lib.hid hw;clear hr hq hw))
    ·go_roundg g
     case measure=>omega
     case rel=>exact ⟨j+1,fs.length,q,cw,es,fs,by omega,rfl,by omega,rfl,rfl,H4.out.st⟩
    ·go_roundg g
     case measure=>omega
     case rel=>exact ⟨j+1,fs.length+1,some qq,cc,es++[(R,z1,z2)],fs++[(R,.slice p1 n1 d1,.slice p2 n2 d2)],by omega,by simp,by omega,rfl,rfl,St.push (H4.out.grown (jM _ _)) e2 (Uy (jM _ _) HT4.out) H5.out HQ.out HW.out⟩
set_option maxHeartbeats 4000000 in
set_option maxRecDepth 1000000 in
theorem zkq (w0 w:World) (gw:Grown w0 w) (hB:w0.heap.size≤w.heap.size) (hk:JS w0):Calls Tryz.prog 7 #[.slice none 0 0,.slice none 0 0] w (zor w0):=by
 have hk':=Lib.hid hk
 have gw':=Lib.hid gw
 clear hk gw
 go_enter Tryz.func7,Tryz.ntmps7
 go_wp2_with ((with_reducible refine (TC.zfR (B:=own w0) (fun c hc=>Nat.le_trans hB hc) (hk'.out.XA (jf.yC gw'.out))).mono ?_);rintro e w1 ⟨h1,t,rfl,h2⟩)
 ·go_loopg [6,7,21] 0 (fun g t want i wr=>zwO w0 0 g t want i wr)
  case atStart=>exact ⟨0,0,none,0,[],[],by omega,rfl,by omega,rfl,rfl,⟨gw'.out.trans' h1,fun c hc=>hc,h2,⟨fun _=>rfl,fun h=>absurd rfl h⟩,fun p n m h=>(by cases h),fun e he=>(by cases he),rfl,fun e he=>(by cases he)⟩⟩
  case round=>
   obtain ⟨j,k,q,cw,es,fs,hj,rfl,hkj,rfl,rfl,H⟩:=hrel
   have H0:=Lib.hid H
   clear H
   have hj0:j=0:=by omega
   subst hj0
   go_wp2
   go_ret2
   exact ⟨u6,.slice q fs.length cw,es,fs,rfl,H0.out,by omega⟩
end Go.AEv
