/- Changes, their encodings and texts: calls and runs (L6a). Conditions: those of each theorem. -/
import Derived.Test.YtmlimgmmpjhifaaGreatDoorH5x1
import Derived.Lib.ItoaNum
set_option maxRecDepth 100000
set_option maxHeartbeats 8000000
set_option linter.all false
namespace Go.AEv
section
open Go Go.Proofs TR
namespace MK
open Go.AEv.GT (zO qq)
open RD (qe)
structure Ch where
 k:Int
 b:Int
 u:Int
 r:Int
 o:Int
 s:Int
 d:Int
 nm:ByteArray
 tx:ByteArray
 ac:ByteArray
 pa:ByteArray
 dp:Bool
abbrev Ch.cells (x:Ch):List Value:=[.int .i64 x.k,.int .i64 x.b,.int .i64 x.u,.int .i64 x.r,.int .i64 x.o,.int .i64 x.s,.int .i64 x.d,.string x.nm,.string x.tx,.string x.ac,.string x.pa,.bool x.dp]
structure Ch.Ok (x:Ch):Prop where
 k0:1≤x.k
 k1:x.k≤18
 b:0≤x.b∧x.b≤99
 u:0≤x.u∧x.u≤99
 r:0≤x.r∧x.r≤99
 o:0≤x.o∧x.o≤99
 s:0≤x.s∧x.s≤99
 d:0≤x.d∧x.d≤99
 nm:x.nm.size≤20
 tx:x.tx.size≤10000
 ac:x.ac.size≤13
 pa:x.pa.size≤13
theorem qc {w:World}{b:Nat}{t:TypeId}{v0 v1 v2 v3 v4 v5 v6 v7 v8 v9 v10 v11:Value} (h:zx Tryz.prog w (b,0,0) t [v0,v1,v2,v3,v4,v5,v6,v7,v8,v9,v10,v11]):w.cell? ⟨b,0,none⟩=some v0∧w.cell? ⟨b,1,none⟩=some v1∧w.cell? ⟨b,2,none⟩=some v2∧w.cell? ⟨b,3,none⟩=some v3∧w.cell? ⟨b,4,none⟩=some v4∧w.cell? ⟨b,5,none⟩=some v5∧w.cell? ⟨b,6,none⟩=some v6∧w.cell? ⟨b,7,none⟩=some v7∧w.cell? ⟨b,8,none⟩=some v8∧w.cell? ⟨b,9,none⟩=some v9∧w.cell? ⟨b,10,none⟩=some v10∧w.cell? ⟨b,11,none⟩=some v11:=
 ⟨(zc h rfl).1,(zc h rfl).1,(zc h rfl).1,(zc h rfl).1,(zc h rfl).1,(zc h rfl).1,(zc h rfl).1,(zc h rfl).1,(zc h rfl).1,(zc h rfl).1,(zc h rfl).1,(zc h rfl).1⟩
theorem pE {w:World}{b:Nat}{t:TypeId}{v0 v1 v2 v3 v4 v5 v6 v7 v8 v9 v10 v11:Value} (h:zx Tryz.prog w (b,0,0) t [v0,v1,v2,v3,v4,v5,v6,v7,v8,v9,v10,v11]):w.frozen? ⟨b,0,none⟩=false∧w.frozen? ⟨b,1,none⟩=false∧w.frozen? ⟨b,2,none⟩=false∧w.frozen? ⟨b,3,none⟩=false∧w.frozen? ⟨b,4,none⟩=false∧w.frozen? ⟨b,5,none⟩=false∧w.frozen? ⟨b,6,none⟩=false∧w.frozen? ⟨b,7,none⟩=false∧w.frozen? ⟨b,8,none⟩=false∧w.frozen? ⟨b,9,none⟩=false∧w.frozen? ⟨b,10,none⟩=false∧w.frozen? ⟨b,11,none⟩=false:=
 ⟨(zc h rfl).2,(zc h rfl).2,(zc h rfl).2,(zc h rfl).2,(zc h rfl).2,(zc h rfl).2,(zc h rfl).2,(zc h rfl).2,(zc h rfl).2,(zc h rfl).2,(zc h rfl).2,(zc h rfl).2⟩
theorem Ff {w:World}{b:Nat}{t:TypeId}{v0 v1 v2 v3 v4 v5 v6 v7 v8:Value} (h:zx Tryz.prog w (b,0,0) t [v0,v1,v2,v3,v4,v5,v6,v7,v8]):w.cell? ⟨b,0,none⟩=some v0∧w.cell? ⟨b,1,none⟩=some v1∧w.cell? ⟨b,2,none⟩=some v2∧w.cell? ⟨b,3,none⟩=some v3∧w.cell? ⟨b,4,none⟩=some v4∧w.cell? ⟨b,5,none⟩=some v5∧w.cell? ⟨b,6,none⟩=some v6∧w.cell? ⟨b,7,none⟩=some v7∧w.cell? ⟨b,8,none⟩=some v8:=
 ⟨(zc h rfl).1,(zc h rfl).1,(zc h rfl).1,(zc h rfl).1,(zc h rfl).1,(zc h rfl).1,(zc h rfl).1,(zc h rfl).1,(zc h rfl).1⟩
theorem under29c:Tryz.prog.underlying 29=some (.struct (Tryz.prog.fieldsOf 29)):=by kernel_rfl
theorem JT:(Tryz.prog.info? 29).map (·.size)=some 12:=by kernel_rfl
theorem kO {w:World}{ops:Array Oper}{rest:List Oper}{o:Oper}{a:Act}{Q:Exit→Act→World→Prop}{t:TypeId}{m:Nat} (x y:Operand) {r:Nat}{old cs:List Value} (hi:(Tryz.prog.info? t).map (·.size)=some m) (hr:zx Tryz.prog w (r,0,0) t old) (hol:old.length=m) (hl:cs.length=m) (h1:∀ v∈cs,v.oneCell'=true) (hg:o.guard=none) (ho:o.op = .store t x y)
  (hx:a.eval x = .pointer (some ⟨r,0,none⟩)) (hy:a.eval y = .agg cs.toArray)
  (hK:∀ w',zx Tryz.prog w' (r,0,0) t cs→qe r w w'→wpList Tryz.prog ops Q rest (a.put o.dst undef) w'):wpList Tryz.prog ops Q (o::rest) a w:=by
 have hr0:=hr
 obtain ⟨arr,fz,r1,r2,r3,r4,r5⟩:=hr
 have r2:0+old.length+0*_≤arr.size:=r2
 rw [hol]at r2
 have hsz:m≤arr.size:=by omega
 obtain ⟨arr',g1,g2,g3,_⟩:=yW r cs.toArray.toList 0 w arr t fz r1 (by rw [List.toList_toArray,hl];omega)
 refine wpList_store_mid hg t x y ho r 0 cs.toArray hx hy (fun j hj=>?_) (by rw [List.size_toArray,hl];exact hi) (all_oneCell_toArray h1) (hK _ ?_ ?_)
 ·rw [List.size_toArray,hl]at hj
  have hlt:0+j<arr.size:=by omega
  refine ⟨?_,?_⟩
  ·unfold World.cell?
   rw [r1]
   show (arr[0+j]?).isSome=true
   rw [Array.getElem?_eq_getElem hlt]
   rfl
  ·unfold World.frozen?
   rw [r1]
   have:=r3 _ hlt
   show (decide (fz.1≤0+j)&&decide (0+j<fz.2))=false
   rw [Bool.and_eq_false_iff,decide_eq_false_iff_not,decide_eq_false_iff_not]
   omega
 ·refine ⟨arr',fz,g1,?_,fun i hi=>r3 i (by omega),Nat.dvd_zero _,fun j hj=>?_⟩
  ·show 0+cs.length+0*_≤_
   rw [Nat.zero_mul,hl,g2]
   omega
  ·have:=g3 j (by rw [List.toList_toArray];exact hj)
   rw [List.toList_toArray]at this
   exact this
 ·refine ⟨fun c hc hn=>World.heap_setCells_other w _ _ _ hc hn,?_,yA _ _ _ _,World.os_setCells _ _ _ _,World.output_setCells _ _ _ _,fun a2 t2 f2 h2=>?_⟩
  ·rw [yB];exact Nat.le_refl _
  ·rw [r1]at h2
   cases h2
   exact ⟨arr',g1⟩
structure OSt (w wx:World) (b3 b4:Nat) (c x:Ch) (e0 e1 e2 e3 e4 e5 e6 e7 e8:Bool):Prop where
 g:Grown w wx
 a:zx Tryz.prog wx (w.heap.size,0,0) 29 c.cells
 z:zx Tryz.prog wx (w.heap.size+1,0,0) 29 [.int .i64 0,.int .i64 0,.int .i64 0,.int .i64 0,.int .i64 0,.int .i64 0,.int .i64 0,.string ⟨#[]⟩,.string ⟨#[]⟩,.string ⟨#[]⟩,.string ⟨#[]⟩,.bool false]
 f:zx Tryz.prog wx (b3,0,0) 85 [.bool e0,.bool e1,.bool e2,.bool e3,.bool e4,.bool e5,.bool e6,.bool e7,.bool e8]
 xr:zx Tryz.prog wx (b4,0,0) 29 x.cells
 ok:x.Ok
 h4:w.heap.size+2≤b4
 h3:b3≠b4
theorem OSt.put {w wx:World}{b3 b4:Nat}{c x y:Ch}{e0 e1 e2 e3 e4 e5 e6 e7 e8:Bool} (h:OSt w wx b3 b4 c x e0 e1 e2 e3 e4 e5 e6 e7 e8) {e:Nat}{v:Value} (hr:zx Tryz.prog (wx.setCell ⟨b4,e,none⟩ v) (b4,0,0) 29 y.cells) (hy:y.Ok):OSt w (wx.setCell ⟨b4,e,none⟩ v) b3 b4 c y e0 e1 e2 e3 e4 e5 e6 e7 e8:=by
 have h4:=h.h4
 exact ⟨qB h.g (by omega),zV h.a (zo (by show w.heap.size≠b4;omega)),zV h.z (zo (by show w.heap.size+1≠b4;omega)),zV h.f (zo h.h3),hr,hy,h.h4,h.h3⟩
theorem OSt.tU {w wx:World}{b3 b4:Nat}{c x:Ch}{e0 e1 e2 e3 e4 e5 e6 e7 e8:Bool} (h:OSt w wx b3 b4 c x e0 e1 e2 e3 e4 e5 e6 e7 e8) (hc:c.Ok):OSt w (wx.setCell ⟨b4,1,none⟩ (.int .i64 c.b)) b3 b4 c { x with b:=c.b } e0 e1 e2 e3 e4 e5 e6 e7 e8:=
 h.put (zD h.xr (k:=1) (show 1<12 by omega)) { h.ok with b:=hc.b }
theorem OSt.pz {w wx:World}{b3 b4:Nat}{c x:Ch}{e0 e1 e2 e3 e4 e5 e6 e7 e8:Bool} (h:OSt w wx b3 b4 c x e0 e1 e2 e3 e4 e5 e6 e7 e8) (hc:c.Ok):OSt w (wx.setCell ⟨b4,2,none⟩ (.int .i64 c.u)) b3 b4 c { x with u:=c.u } e0 e1 e2 e3 e4 e5 e6 e7 e8:=
 h.put (zD h.xr (k:=2) (show 2<12 by omega)) { h.ok with u:=hc.u }
theorem OSt.fA {w wx:World}{b3 b4:Nat}{c x:Ch}{e0 e1 e2 e3 e4 e5 e6 e7 e8:Bool} (h:OSt w wx b3 b4 c x e0 e1 e2 e3 e4 e5 e6 e7 e8) (hc:c.Ok):OSt w (wx.setCell ⟨b4,3,none⟩ (.int .i64 c.r)) b3 b4 c { x with r:=c.r } e0 e1 e2 e3 e4 e5 e6 e7 e8:=
 h.put (zD h.xr (k:=3) (show 3<12 by omega)) { h.ok with r:=hc.r }
theorem OSt.km {w wx:World}{b3 b4:Nat}{c x:Ch}{e0 e1 e2 e3 e4 e5 e6 e7 e8:Bool} (h:OSt w wx b3 b4 c x e0 e1 e2 e3 e4 e5 e6 e7 e8) (hc:c.Ok):OSt w (wx.setCell ⟨b4,4,none⟩ (.int .i64 c.o)) b3 b4 c { x with o:=c.o } e0 e1 e2 e3 e4 e5 e6 e7 e8:=
 h.put (zD h.xr (k:=4) (show 4<12 by omega)) { h.ok with o:=hc.o }
theorem OSt.tT {w wx:World}{b3 b4:Nat}{c x:Ch}{e0 e1 e2 e3 e4 e5 e6 e7 e8:Bool} (h:OSt w wx b3 b4 c x e0 e1 e2 e3 e4 e5 e6 e7 e8) (hc:c.Ok):OSt w (wx.setCell ⟨b4,5,none⟩ (.int .i64 c.s)) b3 b4 c { x with s:=c.s } e0 e1 e2 e3 e4 e5 e6 e7 e8:=
 h.put (zD h.xr (k:=5) (show 5<12 by omega)) { h.ok with s:=hc.s }
theorem OSt.tS {w wx:World}{b3 b4:Nat}{c x:Ch}{e0 e1 e2 e3 e4 e5 e6 e7 e8:Bool} (h:OSt w wx b3 b4 c x e0 e1 e2 e3 e4 e5 e6 e7 e8) (hc:c.Ok):OSt w (wx.setCell ⟨b4,6,none⟩ (.int .i64 c.d)) b3 b4 c { x with d:=c.d } e0 e1 e2 e3 e4 e5 e6 e7 e8:=
 h.put (zD h.xr (k:=6) (show 6<12 by omega)) { h.ok with d:=hc.d }
theorem OSt.fy {w wx:World}{b3 b4:Nat}{c x:Ch}{e0 e1 e2 e3 e4 e5 e6 e7 e8:Bool} (h:OSt w wx b3 b4 c x e0 e1 e2 e3 e4 e5 e6 e7 e8) (hc:c.Ok):OSt w (wx.setCell ⟨b4,7,none⟩ (.string c.nm)) b3 b4 c { x with nm:=c.nm } e0 e1 e2 e3 e4 e5 e6 e7 e8:=
 h.put (zD h.xr (k:=7) (show 7<12 by omega)) { h.ok with nm:=hc.nm }
theorem OSt.cW {w wx:World}{b3 b4:Nat}{c x:Ch}{e0 e1 e2 e3 e4 e5 e6 e7 e8:Bool} (h:OSt w wx b3 b4 c x e0 e1 e2 e3 e4 e5 e6 e7 e8) (hc:c.Ok):OSt w (wx.setCell ⟨b4,8,none⟩ (.string c.tx)) b3 b4 c { x with tx:=c.tx } e0 e1 e2 e3 e4 e5 e6 e7 e8:=
 h.put (zD h.xr (k:=8) (show 8<12 by omega)) { h.ok with tx:=hc.tx }
theorem OSt.mU {w wx:World}{b3 b4:Nat}{c x:Ch}{e0 e1 e2 e3 e4 e5 e6 e7 e8:Bool} (h:OSt w wx b3 b4 c x e0 e1 e2 e3 e4 e5 e6 e7 e8) (hc:c.Ok):OSt w (((wx.setCell ⟨b4,9,none⟩ (.string c.ac)).setCell ⟨b4,10,none⟩ (.string c.pa)).setCell ⟨b4,11,none⟩ (.bool c.dp)) b3 b4 c { x with ac:=c.ac,pa:=c.pa,dp:=c.dp } e0 e1 e2 e3 e4 e5 e6 e7 e8:=by
 have h1:OSt w (wx.setCell ⟨b4,9,none⟩ (.string c.ac)) b3 b4 c { x with ac:=c.ac } e0 e1 e2 e3 e4 e5 e6 e7 e8:=h.put (zD h.xr (k:=9) (show 9<12 by omega)) { h.ok with ac:=hc.ac }
 have h2:OSt w ((wx.setCell ⟨b4,9,none⟩ (.string c.ac)).setCell ⟨b4,10,none⟩ (.string c.pa)) b3 b4 c { x with ac:=c.ac,pa:=c.pa } e0 e1 e2 e3 e4 e5 e6 e7 e8:=h1.put (zD h1.xr (k:=10) (show 10<12 by omega)) { h1.ok with pa:=hc.pa }
 exact h2.put (zD h2.xr (k:=11) (show 11<12 by omega)) { h2.ok with ac:=hc.ac }
theorem dn {w w2:World}{c:Ch}{e0 e1 e2 e3 e4 e5 e6 e7 e8:Bool} (ha:zx Tryz.prog w2 (w.heap.size,0,0) 29 c.cells) (hz:zx Tryz.prog w2 (w.heap.size+1,0,0) 29 [.int .i64 0,.int .i64 0,.int .i64 0,.int .i64 0,.int .i64 0,.int .i64 0,.int .i64 0,.string ⟨#[]⟩,.string ⟨#[]⟩,.string ⟨#[]⟩,.string ⟨#[]⟩,.bool false]) (hc:c.Ok) (g:Grown w w2):OSt w ((w2.alloc (.cells #[.bool e0,.bool e1,.bool e2,.bool e3,.bool e4,.bool e5,.bool e6,.bool e7,.bool e8] 85)).alloc (.cells #[.int .i64 c.k,.int .i64 0,.int .i64 0,.int .i64 0,.int .i64 0,.int .i64 0,.int .i64 0,.string ⟨#[]⟩,.string ⟨#[]⟩,.string ⟨#[]⟩,.string ⟨#[]⟩,.bool false] 29)) w2.heap.size (w2.heap.size+1) c ⟨c.k,0,0,0,0,0,0,⟨#[]⟩,⟨#[]⟩,⟨#[]⟩,⟨#[]⟩,false⟩ e0 e1 e2 e3 e4 e5 e6 e7 e8:=by
 have hs:w.heap.size+1<w2.heap.size:=zx.lt hz
 have zz:(0:Int)≤0∧(0:Int)≤99:=by decide
 have G:=(za w2 (.cells #[.bool e0,.bool e1,.bool e2,.bool e3,.bool e4,.bool e5,.bool e6,.bool e7,.bool e8] 85)).trans' (za _ (.cells #[.int .i64 c.k,.int .i64 0,.int .i64 0,.int .i64 0,.int .i64 0,.int .i64 0,.int .i64 0,.string ⟨#[]⟩,.string ⟨#[]⟩,.string ⟨#[]⟩,.string ⟨#[]⟩,.bool false] 29))
 exact ⟨g.trans' G,zk G ha,zk G hz,zk (za _ _) (zn w2),jS (by rw [zQ]),⟨hc.k0,hc.k1,zz,zz,zz,zz,zz,zz,Nat.zero_le _,Nat.zero_le _,Nat.zero_le _,Nat.zero_le _⟩,by omega,by omega⟩
theorem ji {w wx w9:World}{b:Nat} (g:Grown w wx) (o:qe b wx w9) (hb:w.heap.size≤b):Grown w w9:=
 ⟨fun c hc=>by rw [o.old c (Nat.lt_of_lt_of_le hc g.size) (by omega)];exact g.old c hc,Nat.le_trans g.size o.size,o.tape.trans g.tape,o.os.trans g.os,o.output.trans g.output⟩
theorem pW (x:Ch):∀ v∈x.cells,v.oneCell'=true:=by
 intro v hv
 simp at hv
 rcases hv with rfl | rfl | rfl | rfl | rfl | rfl | rfl | rfl | rfl | rfl | rfl | rfl<;>rfl
end MK
end
section
open Go Go.Proofs TR
namespace MK
section
noncomputable section
def jg:List (List Nat):=[[114,101,97,100],[119,114,105,116,101],[114,117,110]]
def qx:List (List Nat):=[[47],[47,97],[47,97,47,98],[47,97,47,98,47,99],[47,100],[47,100,47,101],[47,97,47,120],[47,102]]
def jD (a p:List Nat) (d:Bool):List Nat:=a++[32]++p++(if d then (if p==[47] then [42] else [47,42]) else [])
def E45:Env:=Kd Tryz.prog specs [] []
def Uo (f:Nat) (a p:List Nat) (d:Bool):Bool:=zt (kB E45 (Wg E45 1000000) f [.agg [.str a,.str p,.bool d]] (kH E45 300)) false fun r=>qs r.1 (.str (jD a p d))
def vx (f:Nat):Bool:=List.rec true (fun a _ ih=>ifB (List.rec true (fun p _ ih2=>ifB (ifB (Uo f a p true) (Uo f a p false) false) ih2 false) qx) ih false) jg
theorem vI:vx 45=true:=by kernel_rfl
theorem vH:vx 46=true:=by kernel_rfl
end
theorem aU {α:Type}{q:α→Bool}:∀ (l:List α),(List.rec true (fun a _ ih=>ifB (q a) ih false) l:Bool)=true→∀ a∈l,q a=true
 | [],_,a,m=>by cases m
 | b::l,h,a,m=>by
  have h:ifB (q b) (List.rec true (fun a _ ih=>ifB (q a) ih false) l) false=true:=h
  rw [zu]at h
  split at h
  ·rename_i hb
   rcases List.mem_cons.1 m with rfl | m
   ·exact hb
   ·exact aU l h a m
  ·cases h
theorem vf {f:Nat} (h:vx f=true) {a p:List Nat} (ha:a∈jg) (hp:p∈qx) (d:Bool):Uo f a p d=true:=by
 have h:(List.rec true (fun a _ ih=>ifB (List.rec true (fun p _ ih2=>ifB (ifB (Uo f a p true) (Uo f a p false) false) ih2 false) qx) ih false) jg:Bool)=true:=h
 have h1:=aU (q:=fun a=>List.rec true (fun p _ ih2=>ifB (ifB (Uo f a p true) (Uo f a p false) false) ih2 false) qx) jg h a ha
 have h2:=aU (q:=fun p=>ifB (Uo f a p true) (Uo f a p false) false) qx h1 p hp
 rw [zu]at h2
 split at h2
 ·cases d
  ·exact h2
  ·assumption
 ·cases h2
theorem vz {a:List Nat} (h:a∈jg):∀ b∈a,b<256:=by
 have:(jg.all fun a=>a.all fun b=>decide (b<256))=true:=by decide
 exact fun b hb=>of_decide_eq_true (List.all_eq_true.1 (List.all_eq_true.1 this a h) b hb)
theorem pO {a:List Nat} (h:a∈qx):∀ b∈a,b<256:=by
 have:(qx.all fun a=>a.all fun b=>decide (b<256))=true:=by decide
 exact fun b hb=>of_decide_eq_true (List.all_eq_true.1 (List.all_eq_true.1 this a h) b hb)
theorem aY {f:Nat} (h:vx f=true) {w:World}{a p:List Nat} (ha:a∈jg) (hp:p∈qx) (d:Bool):Calls Tryz.prog f #[.agg #[.string (str a),.string (str p),.bool d]] w (GrV (.string (str (jD a p d))) w):=by
 letI:=unkU
 have h:=vf h ha hp d
 unfold Uo at h
 cases hr:kB E45 (Wg E45 1000000) f [.agg [.str a,.str p,.bool d]] (kH E45 300) with
 | none=>rw [hr]at h;cases h
 | some r=>
  rw [hr,zg]at h
  have hv:=zX _ _ h
  have hF:Fit E45:=bD YR bm iV
  have:=ya (E:=E45) (N:=300) hF (by decide) (VT (val:=fun _=>.int .u8 0)) (fun f hf=>by cases hf) rfl (r:=r.1) (H':=r.2) hr ⟨⟨vz ha,pO hp,trivial,trivial⟩,trivial⟩ (w:=w) VN
  refine Calls.mono (show Calls Tryz.prog f #[.agg #[.string (str a),.string (str p),.bool d]] w _ from this) fun e w2 hx=>?_
  obtain ⟨hg,γ,rfl,_⟩:=hx
  rw [hv]
  exact ⟨rfl,hg⟩
end
def zC (n:Nat):ByteArray:=⟨(Lib.decDigits n).toArray⟩
theorem vc:∀ i:Fin 10,ten.extract i.val (i.val+1)=⟨[UInt8.ofNat (48+i.val)].toArray⟩:=by decide +kernel
theorem JL {n:Nat} (h:n<10):zC n=W4 (n:Int):=by
 unfold zC W4
 rw [Lib.decDigits_one h,show ((n:Int)+1).toNat=n+1 by omega,Int.toNat_natCast]
 exact (vc ⟨n,h⟩).symm
theorem V7 {n:Nat} (h:¬ n<10):zC n=zC (n / 10)++zC (n % 10):=by
 have e:zC (n % 10)=⟨[UInt8.ofNat (48+n % 10)].toArray⟩:=by unfold zC;rw [Lib.decDigits_one (Nat.mod_lt _ (by decide))]
 rw [e]
 unfold zC
 conv=>lhs;rw [Lib.decDigits,dif_neg h]
 apply ByteArray.ext
 rw [ByteArray.data_append]
 simp
theorem Zz:∀ (k:Nat) {n:Nat},n<10 ^ (k+1)→(zC n).size≤k+1
 | 0,n,h=>by rw [JL (by simpa using h)];exact kj _
 | k+1,n,h=>by
  by_cases h9:n<10
  ·rw [JL h9];exact Nat.le_trans (kj _) (by omega)
  ·have hq:n / 10<10 ^ (k+1):=by
    have:10 ^ (k+1+1)=10 ^ (k+1)*10:=by rw [Nat.pow_succ]
    omega
   rw [V7 h9,ByteArray.size_append]
   have h1:=Zz k hq
   have h2:=kj ((n % 10:Nat):Int)
   rw [← JL (Nat.mod_lt _ (by decide))]at h2
   omega
def oy (s:ByteArray) (w:World) (e:Ending) (w2:World):Prop:=e = .returned (.string s)∧w2=w
theorem bK {w:World}{i:Int}{n:Nat} (hi:i=(n:Int)) (h9:n<10):Calls Tryz.prog 22 #[.int .i64 i] w (oy (zC n) w):=by
 subst hi
 rw [JL h9]
 have h9':(n:Int)<10:=by omega
 have hr:=fun w=>Zm w (i:=(n:Int)) (by omega) h9'
 go_enter Tryz.func22,Tryz.ntmps22
 go_wp2
 go_ret
 exact ⟨rfl,rfl⟩
theorem bJ:∀ (k:Nat),k≤5→∀ {w:World}{i:Int}{n:Nat},i=(n:Int)→n<10 ^ (k+1)→Calls Tryz.prog 22 #[.int .i64 i] w (oy (zC n) w)
 | 0,_,w,i,n,hi,h=>bK hi (by simpa using h)
 | k+1,hk,w,i,n,hi,h=>by
  by_cases h9:n<10
  ·exact bK hi h9
  ·subst hi
   have hq:n / 10<10 ^ (k+1):=by
    have:10 ^ (k+1+1)=10 ^ (k+1)*10:=by rw [Nat.pow_succ]
    omega
   have hn6:n<1000000:=Nat.lt_of_lt_of_le h (Nat.pow_le_pow_right (by omega) (show k+1+1≤6 by omega))
   have h9':¬ (n:Int)<10:=by omega
   have r0:0≤(n:Int) % 10:=by omega
   have r9:(n:Int) % 10<10:=by omega
   have HQ:=Lib.hid hq
   have z1:(zC (n / 10)).size≤6:=Nat.le_trans (Zz k hq) (by omega)
   have z2:(zC (n % 10)).size≤6:=Nat.le_trans (Zz 0 (by have:=Nat.mod_lt n (show 0<10 by decide);simpa using this)) (by omega)
   rw [V7 h9]
   clear hq h
   go_enter Tryz.func22,Tryz.ntmps22
   go_wp2_with (first
    | (go_at_call 22;(with_reducible refine (bJ k (by omega) (i:=(n:Int) / 10) (n:=n / 10) (by omega) HQ.out).mono ?_);rintro e w2 ⟨rfl,rfl⟩)
    | (go_at_call 22;(with_reducible refine (bK (i:=(n:Int) % 10) (n:=n % 10) (by omega) (by omega)).mono ?_);rintro e w3 ⟨rfl,rfl⟩))
   go_ret
   exact ⟨rfl,rfl⟩
end MK
end
end Go.AEv
