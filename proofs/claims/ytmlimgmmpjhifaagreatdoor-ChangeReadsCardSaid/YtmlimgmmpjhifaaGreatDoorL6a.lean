/- The fields of a change that its kind uses. Conditions: none. -/
import Derived.Test.YtmlimgmmpjhifaaGreatDoorH5x1
set_option maxRecDepth 100000
set_option maxHeartbeats 8000000
set_option linter.all false
namespace Go.AEv
section
open Go Go.Proofs TR
namespace MK
open Go.AEv.GT (RwAt NewAt)
open RD (Only)
structure Ch where
 k:Int
 b:Int
 u:Int
 r:Int
 o:Int
 s:Int
 d:Int
 nm:ByteArray
 tx:ByteArray
 ac:ByteArray
 pa:ByteArray
 dp:Bool
abbrev Ch.cells (x:Ch):List Value:=[.int .i64 x.k,.int .i64 x.b,.int .i64 x.u,.int .i64 x.r,.int .i64 x.o,.int .i64 x.s,.int .i64 x.d,.string x.nm,.string x.tx,.string x.ac,.string x.pa,.bool x.dp]
structure Ch.Ok (x:Ch):Prop where
 k0:1≤x.k
 k1:x.k≤18
 b:0≤x.b∧x.b≤99
 u:0≤x.u∧x.u≤99
 r:0≤x.r∧x.r≤99
 o:0≤x.o∧x.o≤99
 s:0≤x.s∧x.s≤99
 d:0≤x.d∧x.d≤99
 nm:x.nm.size≤20
 tx:x.tx.size≤10000
 ac:x.ac.size≤13
 pa:x.pa.size≤13
def ChP (w:World) (e:Ending) (w2:World):Prop:=∃ x:Ch,e = .returned (.agg x.cells.toArray)∧x.Ok∧Grown w w2
theorem row12 {w:World}{b:Nat}{t:TypeId}{v0 v1 v2 v3 v4 v5 v6 v7 v8 v9 v10 v11:Value} (h:RowAt Tryz.prog w (b,0,0) t [v0,v1,v2,v3,v4,v5,v6,v7,v8,v9,v10,v11]):w.cell? ⟨b,0,none⟩=some v0∧w.cell? ⟨b,1,none⟩=some v1∧w.cell? ⟨b,2,none⟩=some v2∧w.cell? ⟨b,3,none⟩=some v3∧w.cell? ⟨b,4,none⟩=some v4∧w.cell? ⟨b,5,none⟩=some v5∧w.cell? ⟨b,6,none⟩=some v6∧w.cell? ⟨b,7,none⟩=some v7∧w.cell? ⟨b,8,none⟩=some v8∧w.cell? ⟨b,9,none⟩=some v9∧w.cell? ⟨b,10,none⟩=some v10∧w.cell? ⟨b,11,none⟩=some v11:=
 ⟨(rowU_cellF h rfl).1,(rowU_cellF h rfl).1,(rowU_cellF h rfl).1,(rowU_cellF h rfl).1,(rowU_cellF h rfl).1,(rowU_cellF h rfl).1,(rowU_cellF h rfl).1,(rowU_cellF h rfl).1,(rowU_cellF h rfl).1,(rowU_cellF h rfl).1,(rowU_cellF h rfl).1,(rowU_cellF h rfl).1⟩
theorem row12F {w:World}{b:Nat}{t:TypeId}{v0 v1 v2 v3 v4 v5 v6 v7 v8 v9 v10 v11:Value} (h:RowAt Tryz.prog w (b,0,0) t [v0,v1,v2,v3,v4,v5,v6,v7,v8,v9,v10,v11]):w.frozen? ⟨b,0,none⟩=false∧w.frozen? ⟨b,1,none⟩=false∧w.frozen? ⟨b,2,none⟩=false∧w.frozen? ⟨b,3,none⟩=false∧w.frozen? ⟨b,4,none⟩=false∧w.frozen? ⟨b,5,none⟩=false∧w.frozen? ⟨b,6,none⟩=false∧w.frozen? ⟨b,7,none⟩=false∧w.frozen? ⟨b,8,none⟩=false∧w.frozen? ⟨b,9,none⟩=false∧w.frozen? ⟨b,10,none⟩=false∧w.frozen? ⟨b,11,none⟩=false:=
 ⟨(rowU_cellF h rfl).2,(rowU_cellF h rfl).2,(rowU_cellF h rfl).2,(rowU_cellF h rfl).2,(rowU_cellF h rfl).2,(rowU_cellF h rfl).2,(rowU_cellF h rfl).2,(rowU_cellF h rfl).2,(rowU_cellF h rfl).2,(rowU_cellF h rfl).2,(rowU_cellF h rfl).2,(rowU_cellF h rfl).2⟩
theorem row9 {w:World}{b:Nat}{t:TypeId}{v0 v1 v2 v3 v4 v5 v6 v7 v8:Value} (h:RowAt Tryz.prog w (b,0,0) t [v0,v1,v2,v3,v4,v5,v6,v7,v8]):w.cell? ⟨b,0,none⟩=some v0∧w.cell? ⟨b,1,none⟩=some v1∧w.cell? ⟨b,2,none⟩=some v2∧w.cell? ⟨b,3,none⟩=some v3∧w.cell? ⟨b,4,none⟩=some v4∧w.cell? ⟨b,5,none⟩=some v5∧w.cell? ⟨b,6,none⟩=some v6∧w.cell? ⟨b,7,none⟩=some v7∧w.cell? ⟨b,8,none⟩=some v8:=
 ⟨(rowU_cellF h rfl).1,(rowU_cellF h rfl).1,(rowU_cellF h rfl).1,(rowU_cellF h rfl).1,(rowU_cellF h rfl).1,(rowU_cellF h rfl).1,(rowU_cellF h rfl).1,(rowU_cellF h rfl).1,(rowU_cellF h rfl).1⟩
theorem under29c:Tryz.prog.underlying 29=some (.struct (Tryz.prog.fieldsOf 29)):=by kernel_rfl
theorem info29c:(Tryz.prog.info? 29).map (·.size)=some 12:=by kernel_rfl
theorem wp_storeW {w:World}{ops:Array Oper}{rest:List Oper}{o:Oper}{a:Act}{Q:Exit→Act→World→Prop}{t:TypeId}{m:Nat} (x y:Operand) {r:Nat}{old cs:List Value} (hi:(Tryz.prog.info? t).map (·.size)=some m) (hr:RowAt Tryz.prog w (r,0,0) t old) (hol:old.length=m) (hl:cs.length=m) (h1:∀ v∈cs,v.oneCell'=true) (hg:o.guard=none) (ho:o.op = .store t x y)
  (hx:a.eval x = .pointer (some ⟨r,0,none⟩)) (hy:a.eval y = .agg cs.toArray)
  (hK:∀ w',RowAt Tryz.prog w' (r,0,0) t cs→Only r w w'→wpList Tryz.prog ops Q rest (a.put o.dst undef) w'):wpList Tryz.prog ops Q (o::rest) a w:=by
 have hr0:=hr
 obtain ⟨arr,fz,r1,r2,r3,r4,r5⟩:=hr
 have r2:0+old.length+0*_≤arr.size:=r2
 rw [hol]at r2
 have hsz:m≤arr.size:=by omega
 obtain ⟨arr',g1,g2,g3,_⟩:=setCells_row r cs.toArray.toList 0 w arr t fz r1 (by rw [List.toList_toArray,hl];omega)
 refine wpList_store_mid hg t x y ho r 0 cs.toArray hx hy (fun j hj=>?_) (by rw [List.size_toArray,hl];exact hi) (all_oneCell_toArray h1) (hK _ ?_ ?_)
 ·rw [List.size_toArray,hl]at hj
  have hlt:0+j<arr.size:=by omega
  refine ⟨?_,?_⟩
  ·unfold World.cell?
   rw [r1]
   show (arr[0+j]?).isSome=true
   rw [Array.getElem?_eq_getElem hlt]
   rfl
  ·unfold World.frozen?
   rw [r1]
   have:=r3 _ hlt
   show (decide (fz.1≤0+j)&&decide (0+j<fz.2))=false
   rw [Bool.and_eq_false_iff,decide_eq_false_iff_not,decide_eq_false_iff_not]
   omega
 ·refine ⟨arr',fz,g1,?_,fun i hi=>r3 i (by omega),Nat.dvd_zero _,fun j hj=>?_⟩
  ·show 0+cs.length+0*_≤_
   rw [Nat.zero_mul,hl,g2]
   omega
  ·have:=g3 j (by rw [List.toList_toArray];exact hj)
   rw [List.toList_toArray]at this
   exact this
 ·refine ⟨fun c hc hn=>World.heap_setCells_other w _ _ _ hc hn,?_,setCells_tape _ _ _ _,World.os_setCells _ _ _ _,World.output_setCells _ _ _ _,fun a2 t2 f2 h2=>?_⟩
  ·rw [setCells_size];exact Nat.le_refl _
  ·rw [r1]at h2
   cases h2
   exact ⟨arr',g1⟩
structure OSt (w wx:World) (b3 b4:Nat) (c x:Ch) (e0 e1 e2 e3 e4 e5 e6 e7 e8:Bool):Prop where
 g:Grown w wx
 a:RowAt Tryz.prog wx (w.heap.size,0,0) 29 c.cells
 z:RowAt Tryz.prog wx (w.heap.size+1,0,0) 29 [.int .i64 0,.int .i64 0,.int .i64 0,.int .i64 0,.int .i64 0,.int .i64 0,.int .i64 0,.string ⟨#[]⟩,.string ⟨#[]⟩,.string ⟨#[]⟩,.string ⟨#[]⟩,.bool false]
 f:RowAt Tryz.prog wx (b3,0,0) 85 [.bool e0,.bool e1,.bool e2,.bool e3,.bool e4,.bool e5,.bool e6,.bool e7,.bool e8]
 xr:RowAt Tryz.prog wx (b4,0,0) 29 x.cells
 ok:x.Ok
 h4:w.heap.size+2≤b4
 h3:b3≠b4
theorem OSt.put {w wx:World}{b3 b4:Nat}{c x y:Ch}{e0 e1 e2 e3 e4 e5 e6 e7 e8:Bool} (h:OSt w wx b3 b4 c x e0 e1 e2 e3 e4 e5 e6 e7 e8) {e:Nat}{v:Value} (hr:RowAt Tryz.prog (wx.setCell ⟨b4,e,none⟩ v) (b4,0,0) 29 y.cells) (hy:y.Ok):OSt w (wx.setCell ⟨b4,e,none⟩ v) b3 b4 c y e0 e1 e2 e3 e4 e5 e6 e7 e8:=by
 have h4:=h.h4
 exact ⟨grown_set h.g (by omega),row_heap h.a (set_other_heap (by show w.heap.size≠b4;omega)),row_heap h.z (set_other_heap (by show w.heap.size+1≠b4;omega)),row_heap h.f (set_other_heap h.h3),hr,hy,h.h4,h.h3⟩
theorem OSt.set1 {w wx:World}{b3 b4:Nat}{c x:Ch}{e0 e1 e2 e3 e4 e5 e6 e7 e8:Bool} (h:OSt w wx b3 b4 c x e0 e1 e2 e3 e4 e5 e6 e7 e8) (hc:c.Ok):OSt w (wx.setCell ⟨b4,1,none⟩ (.int .i64 c.b)) b3 b4 c { x with b:=c.b } e0 e1 e2 e3 e4 e5 e6 e7 e8:=
 h.put (rowU_setk h.xr (k:=1) (show 1<12 by omega)) { h.ok with b:=hc.b }
theorem OSt.set2 {w wx:World}{b3 b4:Nat}{c x:Ch}{e0 e1 e2 e3 e4 e5 e6 e7 e8:Bool} (h:OSt w wx b3 b4 c x e0 e1 e2 e3 e4 e5 e6 e7 e8) (hc:c.Ok):OSt w (wx.setCell ⟨b4,2,none⟩ (.int .i64 c.u)) b3 b4 c { x with u:=c.u } e0 e1 e2 e3 e4 e5 e6 e7 e8:=
 h.put (rowU_setk h.xr (k:=2) (show 2<12 by omega)) { h.ok with u:=hc.u }
theorem OSt.set3 {w wx:World}{b3 b4:Nat}{c x:Ch}{e0 e1 e2 e3 e4 e5 e6 e7 e8:Bool} (h:OSt w wx b3 b4 c x e0 e1 e2 e3 e4 e5 e6 e7 e8) (hc:c.Ok):OSt w (wx.setCell ⟨b4,3,none⟩ (.int .i64 c.r)) b3 b4 c { x with r:=c.r } e0 e1 e2 e3 e4 e5 e6 e7 e8:=
 h.put (rowU_setk h.xr (k:=3) (show 3<12 by omega)) { h.ok with r:=hc.r }
theorem OSt.set4 {w wx:World}{b3 b4:Nat}{c x:Ch}{e0 e1 e2 e3 e4 e5 e6 e7 e8:Bool} (h:OSt w wx b3 b4 c x e0 e1 e2 e3 e4 e5 e6 e7 e8) (hc:c.Ok):OSt w (wx.setCell ⟨b4,4,none⟩ (.int .i64 c.o)) b3 b4 c { x with o:=c.o } e0 e1 e2 e3 e4 e5 e6 e7 e8:=
 h.put (rowU_setk h.xr (k:=4) (show 4<12 by omega)) { h.ok with o:=hc.o }
theorem OSt.set5 {w wx:World}{b3 b4:Nat}{c x:Ch}{e0 e1 e2 e3 e4 e5 e6 e7 e8:Bool} (h:OSt w wx b3 b4 c x e0 e1 e2 e3 e4 e5 e6 e7 e8) (hc:c.Ok):OSt w (wx.setCell ⟨b4,5,none⟩ (.int .i64 c.s)) b3 b4 c { x with s:=c.s } e0 e1 e2 e3 e4 e5 e6 e7 e8:=
 h.put (rowU_setk h.xr (k:=5) (show 5<12 by omega)) { h.ok with s:=hc.s }
theorem OSt.set6 {w wx:World}{b3 b4:Nat}{c x:Ch}{e0 e1 e2 e3 e4 e5 e6 e7 e8:Bool} (h:OSt w wx b3 b4 c x e0 e1 e2 e3 e4 e5 e6 e7 e8) (hc:c.Ok):OSt w (wx.setCell ⟨b4,6,none⟩ (.int .i64 c.d)) b3 b4 c { x with d:=c.d } e0 e1 e2 e3 e4 e5 e6 e7 e8:=
 h.put (rowU_setk h.xr (k:=6) (show 6<12 by omega)) { h.ok with d:=hc.d }
theorem OSt.set7 {w wx:World}{b3 b4:Nat}{c x:Ch}{e0 e1 e2 e3 e4 e5 e6 e7 e8:Bool} (h:OSt w wx b3 b4 c x e0 e1 e2 e3 e4 e5 e6 e7 e8) (hc:c.Ok):OSt w (wx.setCell ⟨b4,7,none⟩ (.string c.nm)) b3 b4 c { x with nm:=c.nm } e0 e1 e2 e3 e4 e5 e6 e7 e8:=
 h.put (rowU_setk h.xr (k:=7) (show 7<12 by omega)) { h.ok with nm:=hc.nm }
theorem OSt.set8 {w wx:World}{b3 b4:Nat}{c x:Ch}{e0 e1 e2 e3 e4 e5 e6 e7 e8:Bool} (h:OSt w wx b3 b4 c x e0 e1 e2 e3 e4 e5 e6 e7 e8) (hc:c.Ok):OSt w (wx.setCell ⟨b4,8,none⟩ (.string c.tx)) b3 b4 c { x with tx:=c.tx } e0 e1 e2 e3 e4 e5 e6 e7 e8:=
 h.put (rowU_setk h.xr (k:=8) (show 8<12 by omega)) { h.ok with tx:=hc.tx }
theorem OSt.setP {w wx:World}{b3 b4:Nat}{c x:Ch}{e0 e1 e2 e3 e4 e5 e6 e7 e8:Bool} (h:OSt w wx b3 b4 c x e0 e1 e2 e3 e4 e5 e6 e7 e8) (hc:c.Ok):OSt w (((wx.setCell ⟨b4,9,none⟩ (.string c.ac)).setCell ⟨b4,10,none⟩ (.string c.pa)).setCell ⟨b4,11,none⟩ (.bool c.dp)) b3 b4 c { x with ac:=c.ac,pa:=c.pa,dp:=c.dp } e0 e1 e2 e3 e4 e5 e6 e7 e8:=by
 have h1:OSt w (wx.setCell ⟨b4,9,none⟩ (.string c.ac)) b3 b4 c { x with ac:=c.ac } e0 e1 e2 e3 e4 e5 e6 e7 e8:=h.put (rowU_setk h.xr (k:=9) (show 9<12 by omega)) { h.ok with ac:=hc.ac }
 have h2:OSt w ((wx.setCell ⟨b4,9,none⟩ (.string c.ac)).setCell ⟨b4,10,none⟩ (.string c.pa)) b3 b4 c { x with ac:=c.ac,pa:=c.pa } e0 e1 e2 e3 e4 e5 e6 e7 e8:=h1.put (rowU_setk h1.xr (k:=10) (show 10<12 by omega)) { h1.ok with pa:=hc.pa }
 exact h2.put (rowU_setk h2.xr (k:=11) (show 11<12 by omega)) { h2.ok with ac:=hc.ac }
theorem os_start {w w2:World}{c:Ch}{e0 e1 e2 e3 e4 e5 e6 e7 e8:Bool} (ha:RowAt Tryz.prog w2 (w.heap.size,0,0) 29 c.cells) (hz:RowAt Tryz.prog w2 (w.heap.size+1,0,0) 29 [.int .i64 0,.int .i64 0,.int .i64 0,.int .i64 0,.int .i64 0,.int .i64 0,.int .i64 0,.string ⟨#[]⟩,.string ⟨#[]⟩,.string ⟨#[]⟩,.string ⟨#[]⟩,.bool false]) (hc:c.Ok) (g:Grown w w2):OSt w ((w2.alloc (.cells #[.bool e0,.bool e1,.bool e2,.bool e3,.bool e4,.bool e5,.bool e6,.bool e7,.bool e8] 85)).alloc (.cells #[.int .i64 c.k,.int .i64 0,.int .i64 0,.int .i64 0,.int .i64 0,.int .i64 0,.int .i64 0,.string ⟨#[]⟩,.string ⟨#[]⟩,.string ⟨#[]⟩,.string ⟨#[]⟩,.bool false] 29)) w2.heap.size (w2.heap.size+1) c ⟨c.k,0,0,0,0,0,0,⟨#[]⟩,⟨#[]⟩,⟨#[]⟩,⟨#[]⟩,false⟩ e0 e1 e2 e3 e4 e5 e6 e7 e8:=by
 have hs:w.heap.size+1<w2.heap.size:=RowAt.lt hz
 have zz:(0:Int)≤0∧(0:Int)≤99:=by decide
 have G:=(grown_alloc w2 (.cells #[.bool e0,.bool e1,.bool e2,.bool e3,.bool e4,.bool e5,.bool e6,.bool e7,.bool e8] 85)).trans' (grown_alloc _ (.cells #[.int .i64 c.k,.int .i64 0,.int .i64 0,.int .i64 0,.int .i64 0,.int .i64 0,.int .i64 0,.string ⟨#[]⟩,.string ⟨#[]⟩,.string ⟨#[]⟩,.string ⟨#[]⟩,.bool false] 29))
 exact ⟨g.trans' G,grown_row G ha,grown_row G hz,grown_row (grown_alloc _ _) (rowU_box w2),rowU_at (by rw [alloc_size]),⟨hc.k0,hc.k1,zz,zz,zz,zz,zz,zz,Nat.zero_le _,Nat.zero_le _,Nat.zero_le _,Nat.zero_le _⟩,by omega,by omega⟩
theorem grown_onlyN {w wx w9:World}{b:Nat} (g:Grown w wx) (o:Only b wx w9) (hb:w.heap.size≤b):Grown w w9:=
 ⟨fun c hc=>by rw [o.old c (Nat.lt_of_lt_of_le hc g.size) (by omega)];exact g.old c hc,Nat.le_trans g.size o.size,o.tape.trans g.tape,o.os.trans g.os,o.output.trans g.output⟩
theorem one12 (x:Ch):∀ v∈x.cells,v.oneCell'=true:=by
 intro v hv
 simp at hv
 rcases hv with rfl | rfl | rfl | rfl | rfl | rfl | rfl | rfl | rfl | rfl | rfl | rfl<;>rfl
theorem only_call {w:World}{c:Ch} (hc:c.Ok):Calls Tryz.prog 28 #[.agg c.cells.toArray] w (ChP w):=by
 have HC:=Lib.hid hc
 clear hc
 go_enter Tryz.func28,Tryz.ntmps28
 go_upto_if 12 with (first
  | (go_at_call 36;(with_reducible refine uses25_call.mono ?_);rintro e w2 ⟨e0,e1,e2,e3,e4,e5,e6,e7,e8,rfl,g2⟩;have G2:=Lib.hid (((grown_alloc _ _).trans' (grown_alloc _ _)).trans' g2);have A2:=Lib.hid (grown_row ((grown_alloc _ (.cells #[.int .i64 0,.int .i64 0,.int .i64 0,.int .i64 0,.int .i64 0,.int .i64 0,.int .i64 0,.string ⟨#[]⟩,.string ⟨#[]⟩,.string ⟨#[]⟩,.string ⟨#[]⟩,.bool false] 29)).trans' g2) (rowU_box w (z:=#[.int .i64 c.k,.int .i64 c.b,.int .i64 c.u,.int .i64 c.r,.int .i64 c.o,.int .i64 c.s,.int .i64 c.d,.string c.nm,.string c.tx,.string c.ac,.string c.pa,.bool c.dp]) (t:=29)));have Z2:=Lib.hid (grown_row g2 (rowU_at (w:=w.alloc (.cells #[.int .i64 c.k,.int .i64 c.b,.int .i64 c.u,.int .i64 c.r,.int .i64 c.o,.int .i64 c.s,.int .i64 c.d,.string c.nm,.string c.tx,.string c.ac,.string c.pa,.bool c.dp] 29)) (z:=#[.int .i64 0,.int .i64 0,.int .i64 0,.int .i64 0,.int .i64 0,.int .i64 0,.int .i64 0,.string ⟨#[]⟩,.string ⟨#[]⟩,.string ⟨#[]⟩,.string ⟨#[]⟩,.bool false]) (t:=29) (b:=w.heap.size+1) (by rw [alloc_size])));obtain ⟨c0,c1,c2,c3,c4,c5,c6,c7,c8,c9,c10,c11⟩:=row12 A2.out;have c0a:=fun ob=>RD.cell_grown c0 (grown_alloc w2 ob);clear g2))
 have S0':=os_start (e0:=e0) (e1:=e1) (e2:=e2) (e3:=e3) (e4:=e4) (e5:=e5) (e6:=e6) (e7:=e7) (e8:=e8) A2.out Z2.out HC.out G2.out
 obtain ⟨WA,hWA⟩:∃ WA,WA=((w2.alloc (.cells #[.bool e0,.bool e1,.bool e2,.bool e3,.bool e4,.bool e5,.bool e6,.bool e7,.bool e8] 85)).alloc (.cells #[.int .i64 c.k,.int .i64 0,.int .i64 0,.int .i64 0,.int .i64 0,.int .i64 0,.int .i64 0,.string ⟨#[]⟩,.string ⟨#[]⟩,.string ⟨#[]⟩,.string ⟨#[]⟩,.bool false] 29)):=⟨_,rfl⟩
 rw [← hWA]at S0'
 rw [← hWA]
 have S0:=Lib.hid S0'
 clear S0' hWA c0a c0 c1 c2 c3 c4 c5 c6 c7 c8 c9 c10 c11
 go_cut [] from 11 to 56 (fun wx=>∃ x:Ch,OSt w wx w2.heap.size (w2.heap.size+1) c x e0 e1 e2 e3 e4 e5 e6 e7 e8)
 case first=>
  have ca0:=(rowU_cellF (k:=0) S0.out.a rfl).1
  have ca1:=(rowU_cellF (k:=1) S0.out.a rfl).1
  obtain ⟨cx0,fx0⟩:=rowU_cellF (k:=0) S0.out.xr rfl
  obtain ⟨cx1,fx1⟩:=rowU_cellF (k:=1) S0.out.xr rfl
  cases e0 with
  | true=>
   go_wp2_with fail
   go_meet
   case rel=>exact ⟨_,S0.out.set1 HC.out⟩
  | false=>
   go_wp2_with fail
   go_meet
   case rel=>exact ⟨_,S0.out⟩
 case rest=>
  obtain ⟨x1,hst⟩:=hcut
  have S1:=Lib.hid hst
  clear hst
  have cf0:=(rowU_cellF (k:=0) S1.out.f rfl).1
  have cf:=(rowU_cellF (k:=1) S1.out.f rfl).1
  go_upto_if 17 with fail
  go_cut [] from 11 to 56 (fun wx=>∃ x:Ch,OSt w wx w2.heap.size (w2.heap.size+1) c x e0 e1 e2 e3 e4 e5 e6 e7 e8)
  case first=>
   have ca0:=(rowU_cellF (k:=0) S1.out.a rfl).1
   have ca2:=(rowU_cellF (k:=2) S1.out.a rfl).1
   obtain ⟨cx0,fx0⟩:=rowU_cellF (k:=0) S1.out.xr rfl
   obtain ⟨cx2,fx2⟩:=rowU_cellF (k:=2) S1.out.xr rfl
   cases e1 with
   | true=>
    go_wp2_with fail
    go_meet
    case rel=>exact ⟨_,S1.out.set2 HC.out⟩
   | false=>
    go_wp2_with fail
    go_meet
    case rel=>exact ⟨_,S1.out⟩
  case rest=>
   obtain ⟨x2,hst⟩:=hcut
   have S2:=Lib.hid hst
   clear hst
   have cf0:=(rowU_cellF (k:=0) S2.out.f rfl).1
   have cf:=(rowU_cellF (k:=2) S2.out.f rfl).1
   go_upto_if 22 with fail
   go_cut [] from 11 to 56 (fun wx=>∃ x:Ch,OSt w wx w2.heap.size (w2.heap.size+1) c x e0 e1 e2 e3 e4 e5 e6 e7 e8)
   case first=>
    have ca0:=(rowU_cellF (k:=0) S2.out.a rfl).1
    have ca3:=(rowU_cellF (k:=3) S2.out.a rfl).1
    obtain ⟨cx0,fx0⟩:=rowU_cellF (k:=0) S2.out.xr rfl
    obtain ⟨cx3,fx3⟩:=rowU_cellF (k:=3) S2.out.xr rfl
    cases e2 with
    | true=>
     go_wp2_with fail
     go_meet
     case rel=>exact ⟨_,S2.out.set3 HC.out⟩
    | false=>
     go_wp2_with fail
     go_meet
     case rel=>exact ⟨_,S2.out⟩
   case rest=>
    obtain ⟨x3,hst⟩:=hcut
    have S3:=Lib.hid hst
    clear hst
    have cf0:=(rowU_cellF (k:=0) S3.out.f rfl).1
    have cf:=(rowU_cellF (k:=3) S3.out.f rfl).1
    go_upto_if 27 with fail
    go_cut [] from 11 to 56 (fun wx=>∃ x:Ch,OSt w wx w2.heap.size (w2.heap.size+1) c x e0 e1 e2 e3 e4 e5 e6 e7 e8)
    case first=>
     have ca0:=(rowU_cellF (k:=0) S3.out.a rfl).1
     have ca4:=(rowU_cellF (k:=4) S3.out.a rfl).1
     obtain ⟨cx0,fx0⟩:=rowU_cellF (k:=0) S3.out.xr rfl
     obtain ⟨cx4,fx4⟩:=rowU_cellF (k:=4) S3.out.xr rfl
     cases e3 with
     | true=>
      go_wp2_with fail
      go_meet
      case rel=>exact ⟨_,S3.out.set4 HC.out⟩
     | false=>
      go_wp2_with fail
      go_meet
      case rel=>exact ⟨_,S3.out⟩
    case rest=>
     obtain ⟨x4,hst⟩:=hcut
     have S4:=Lib.hid hst
     clear hst
     have cf0:=(rowU_cellF (k:=0) S4.out.f rfl).1
     have cf:=(rowU_cellF (k:=4) S4.out.f rfl).1
     go_upto_if 32 with fail
     go_cut [] from 11 to 56 (fun wx=>∃ x:Ch,OSt w wx w2.heap.size (w2.heap.size+1) c x e0 e1 e2 e3 e4 e5 e6 e7 e8)
     case first=>
      have ca0:=(rowU_cellF (k:=0) S4.out.a rfl).1
      have ca5:=(rowU_cellF (k:=5) S4.out.a rfl).1
      obtain ⟨cx0,fx0⟩:=rowU_cellF (k:=0) S4.out.xr rfl
      obtain ⟨cx5,fx5⟩:=rowU_cellF (k:=5) S4.out.xr rfl
      cases e4 with
      | true=>
       go_wp2_with fail
       go_meet
       case rel=>exact ⟨_,S4.out.set5 HC.out⟩
      | false=>
       go_wp2_with fail
       go_meet
       case rel=>exact ⟨_,S4.out⟩
     case rest=>
      obtain ⟨x5,hst⟩:=hcut
      have S5:=Lib.hid hst
      clear hst
      have cf0:=(rowU_cellF (k:=0) S5.out.f rfl).1
      have cf:=(rowU_cellF (k:=5) S5.out.f rfl).1
      go_upto_if 37 with fail
      go_cut [] from 11 to 56 (fun wx=>∃ x:Ch,OSt w wx w2.heap.size (w2.heap.size+1) c x e0 e1 e2 e3 e4 e5 e6 e7 e8)
      case first=>
       have ca0:=(rowU_cellF (k:=0) S5.out.a rfl).1
       have ca6:=(rowU_cellF (k:=6) S5.out.a rfl).1
       obtain ⟨cx0,fx0⟩:=rowU_cellF (k:=0) S5.out.xr rfl
       obtain ⟨cx6,fx6⟩:=rowU_cellF (k:=6) S5.out.xr rfl
       cases e5 with
       | true=>
        go_wp2_with fail
        go_meet
        case rel=>exact ⟨_,S5.out.set6 HC.out⟩
       | false=>
        go_wp2_with fail
        go_meet
        case rel=>exact ⟨_,S5.out⟩
      case rest=>
       obtain ⟨x6,hst⟩:=hcut
       have S6:=Lib.hid hst
       clear hst
       have cf0:=(rowU_cellF (k:=0) S6.out.f rfl).1
       have cf:=(rowU_cellF (k:=6) S6.out.f rfl).1
       go_upto_if 42 with fail
       go_cut [] from 11 to 56 (fun wx=>∃ x:Ch,OSt w wx w2.heap.size (w2.heap.size+1) c x e0 e1 e2 e3 e4 e5 e6 e7 e8)
       case first=>
        have ca0:=(rowU_cellF (k:=0) S6.out.a rfl).1
        have ca7:=(rowU_cellF (k:=7) S6.out.a rfl).1
        obtain ⟨cx0,fx0⟩:=rowU_cellF (k:=0) S6.out.xr rfl
        obtain ⟨cx7,fx7⟩:=rowU_cellF (k:=7) S6.out.xr rfl
        cases e6 with
        | true=>
         go_wp2_with fail
         go_meet
         case rel=>exact ⟨_,S6.out.set7 HC.out⟩
        | false=>
         go_wp2_with fail
         go_meet
         case rel=>exact ⟨_,S6.out⟩
       case rest=>
        obtain ⟨x7,hst⟩:=hcut
        have S7:=Lib.hid hst
        clear hst
        have cf0:=(rowU_cellF (k:=0) S7.out.f rfl).1
        have cf:=(rowU_cellF (k:=7) S7.out.f rfl).1
        go_upto_if 47 with fail
        go_cut [] from 11 to 56 (fun wx=>∃ x:Ch,OSt w wx w2.heap.size (w2.heap.size+1) c x e0 e1 e2 e3 e4 e5 e6 e7 e8)
        case first=>
         have ca0:=(rowU_cellF (k:=0) S7.out.a rfl).1
         have ca8:=(rowU_cellF (k:=8) S7.out.a rfl).1
         obtain ⟨cx0,fx0⟩:=rowU_cellF (k:=0) S7.out.xr rfl
         obtain ⟨cx8,fx8⟩:=rowU_cellF (k:=8) S7.out.xr rfl
         cases e7 with
         | true=>
          go_wp2_with fail
          go_meet
          case rel=>exact ⟨_,S7.out.set8 HC.out⟩
         | false=>
          go_wp2_with fail
          go_meet
          case rel=>exact ⟨_,S7.out⟩
        case rest=>
         obtain ⟨x8,hst⟩:=hcut
         have S8:=Lib.hid hst
         clear hst
         have cf0:=(rowU_cellF (k:=0) S8.out.f rfl).1
         have cf:=(rowU_cellF (k:=8) S8.out.f rfl).1
         go_upto_if 52 with fail
         go_cut [] from 11 to 56 (fun wx=>∃ x:Ch,OSt w wx w2.heap.size (w2.heap.size+1) c x e0 e1 e2 e3 e4 e5 e6 e7 e8)
         case first=>
          have ca0:=(rowU_cellF (k:=0) S8.out.a rfl).1
          have ca9:=(rowU_cellF (k:=9) S8.out.a rfl).1
          have ca10:=(rowU_cellF (k:=10) S8.out.a rfl).1
          have ca11:=(rowU_cellF (k:=11) S8.out.a rfl).1
          obtain ⟨cx0,fx0⟩:=rowU_cellF (k:=0) S8.out.xr rfl
          obtain ⟨cx9,fx9⟩:=rowU_cellF (k:=9) S8.out.xr rfl
          obtain ⟨cx10,fx10⟩:=rowU_cellF (k:=10) S8.out.xr rfl
          obtain ⟨cx11,fx11⟩:=rowU_cellF (k:=11) S8.out.xr rfl
          cases e8 with
          | true=>
           go_wp2_with fail
           go_meet
           case rel=>exact ⟨_,S8.out.setP HC.out⟩
          | false=>
           go_wp2_with fail
           go_meet
           case rel=>exact ⟨_,S8.out⟩
         case rest=>
          obtain ⟨x9,hst⟩:=hcut
          have S9:=Lib.hid hst
          clear hst
          obtain ⟨y0,y1,y2,y3,y4,y5,y6,y7,y8,y9,y10,y11⟩:=row12 S9.out.xr
          go_wp2_with (first
           | (refine wp_storeW _ _ info29c S9.out.z rfl rfl (cs:=Ch.cells x9) (one12 _) rfl rfl rfl rfl ?_;intro w9 k1 k2;have R9:=Lib.hid k1;have O9:=Lib.hid k2;clear k1 k2))
          refine bodyPost_ret (results_cell_mid (p:=2) (ty:=29) rfl _ _ (w.heap.size+1) _ _ rfl (row_range R9.out) under29c rfl info29c) rfl ?_
          exact ⟨x9,rfl,S9.out.ok,grown_onlyN S9.out.g O9.out (by omega)⟩
end MK
end
end Go.AEv
