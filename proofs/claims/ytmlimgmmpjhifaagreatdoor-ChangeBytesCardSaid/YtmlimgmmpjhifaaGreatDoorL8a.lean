/- The numbers of a change, as pointers; only the used fields. Conditions: the change lies in memory. -/
import Derived.Test.YtmlimgmmpjhifaaGreatDoorH7x0
set_option maxHeartbeats 8000000
set_option maxRecDepth 100000
set_option linter.all false
namespace Go.AEv
section
open Go Go.Proofs TR
namespace MK
open Go.AEv.GT (zO qq)
open RD (qe)
attribute [local go_sem ↓] Go.wp_at_zero Go.wp_at_succ
structure Pc where
 k:Nat
 n0:Nat
 n1:Nat
 n2:Nat
 n3:Nat
 n4:Nat
 n5:Nat
 nm:List Nat
 tx:List Nat
 ac:List Nat
 pa:List Nat
 dp:Bool
abbrev Pc.cells (c:Pc):List Value:=[.int .u8 (c.k:Nat),.int .i64 (c.n0:Nat),.int .i64 (c.n1:Nat),.int .i64 (c.n2:Nat),.int .i64 (c.n3:Nat),.int .i64 (c.n4:Nat),.int .i64 (c.n5:Nat),.string (str c.nm),.string (str c.tx),.string (str c.ac),.string (str c.pa),.bool c.dp]
abbrev WZ (b:Nat):Value:=.agg #[.pointer (some ⟨b,1,none⟩),.pointer (some ⟨b,2,none⟩),.pointer (some ⟨b,3,none⟩),.pointer (some ⟨b,4,none⟩),.pointer (some ⟨b,5,none⟩),.pointer (some ⟨b,6,none⟩)]
theorem under81:Tryz.prog.underlying 81=some (.array 6 80):=by kernel_rfl
theorem Be:(Tryz.prog.info? 81).map (·.size)=some 6:=by kernel_rfl
theorem ZM {w:World}{b:Nat}{v0 v1 v2 v3 v4 v5 v6 v7 v8 v9 v10 v11:Value} (h:zx Tryz.prog w (b,0,0) 34 [v0,v1,v2,v3,v4,v5,v6,v7,v8,v9,v10,v11]):Calls Tryz.prog 32 #[.pointer (some ⟨b,0,none⟩)] w (fun e w2=>e = .returned (WZ b)∧Grown w w2):=by
 obtain ⟨c0,c1,c2,c3,c4,c5,c6,_⟩:=qc h
 have c0a:=fun ob=>RD.ze c0 (za w ob)
 go_enter Tryz.func32,Tryz.ntmps32
 go_wp2_with fail
 go_big_region
 all_goals (
  dsimp only [Exit.then]
  go_wp2_with fail)
 all_goals (
  refine bodyPost_ret (zI (p:=2) (ty:=81) rfl _ _ w.heap.size _ _ rfl (zS (zk (zp _) (zn w))) under81 rfl Be) rfl ?_
  exact ⟨rfl,(za _ _).trans' (zp _)⟩)
theorem jh (b:Nat) (w:World):(Instr.index 81 (WZ b) (.int .i64 0)).run Tryz.prog w = .ok (.pointer (some ⟨b,1,none⟩)) w∧(Instr.index 81 (WZ b) (.int .i64 1)).run Tryz.prog w = .ok (.pointer (some ⟨b,2,none⟩)) w∧(Instr.index 81 (WZ b) (.int .i64 2)).run Tryz.prog w = .ok (.pointer (some ⟨b,3,none⟩)) w∧(Instr.index 81 (WZ b) (.int .i64 3)).run Tryz.prog w = .ok (.pointer (some ⟨b,4,none⟩)) w∧(Instr.index 81 (WZ b) (.int .i64 4)).run Tryz.prog w = .ok (.pointer (some ⟨b,5,none⟩)) w∧(Instr.index 81 (WZ b) (.int .i64 5)).run Tryz.prog w = .ok (.pointer (some ⟨b,6,none⟩)) w:=by
 refine ⟨?_,?_,?_,?_,?_,?_⟩<;>simp [WZ,Instr.index,run_underlying under81,go_sem]
theorem jR {b:Bool} (h:(!b)=true):b=false:=by cases b<;>simp_all
theorem pB {w:World}{b k:Nat}{t:TypeId}{vs:List Value}{v:Value} (h:zx Tryz.prog w (b,0,0) t vs) (hv:vs[k]? = some v):zx Tryz.prog (w.setCell ⟨b,k,none⟩ v) (b,0,0) t vs:=by
 obtain ⟨hk,e⟩:=List.getElem?_eq_some_iff.1 hv
 subst e
 have:=zD (v:=vs[k]) h hk
 rwa [List.set_getElem_self]at this
structure Nrm (c:Pc):Prop where
 k:c.k≤18
 n0:c.n0≤1000000∧(useB c.k 0=false→c.n0=0)
 n1:c.n1≤1000000∧(useB c.k 1=false→c.n1=0)
 n2:c.n2≤1000000∧(useB c.k 2=false→c.n2=0)
 n3:c.n3≤1000000∧(useB c.k 3=false→c.n3=0)
 n4:c.n4≤1000000∧(useB c.k 4=false→c.n4=0)
 n5:c.n5≤1000000∧(useB c.k 5=false→c.n5=0)
 nm:c.nm.length≤12∧(useB c.k 6=false→c.nm=[])
 tx:c.tx.length≤8000∧(useB c.k 7=false→c.tx=[])
 ac:c.ac.length≤12∧(useB c.k 8=false→c.ac=[])
 pa:c.pa.length≤104∧(useB c.k 8=false→c.pa=[])
 dp:useB c.k 8=false→c.dp=false
theorem under34:Tryz.prog.underlying 34=some (.struct (Tryz.prog.fieldsOf 34)):=by kernel_rfl
theorem ZB:(Tryz.prog.info? 34).map (·.size)=some 12:=by kernel_rfl
theorem fO (x:Pc):∀ v∈x.cells,v.oneCell'=true:=by
 intro v hv
 simp at hv
 rcases hv with rfl | rfl | rfl | rfl | rfl | rfl | rfl | rfl | rfl | rfl | rfl | rfl<;>rfl
structure Us (w wx:World) (c:Pc) (b3:Nat):Prop where
 g:Grown w wx
 a:zx Tryz.prog wx (w.heap.size,0,0) 34 c.cells
 z:zx Tryz.prog wx (w.heap.size+1,0,0) 34 [.int .u8 0,.int .i64 0,.int .i64 0,.int .i64 0,.int .i64 0,.int .i64 0,.int .i64 0,.string ⟨#[]⟩,.string ⟨#[]⟩,.string ⟨#[]⟩,.string ⟨#[]⟩,.bool false]
 f:zx Tryz.prog wx (b3,0,0) 78 [.bool (useB c.k 0),.bool (useB c.k 1),.bool (useB c.k 2),.bool (useB c.k 3),.bool (useB c.k 4),.bool (useB c.k 5),.bool (useB c.k 6),.bool (useB c.k 7),.bool (useB c.k 8)]
 h3:b3≠w.heap.size
theorem Us.grown {w wx wy:World}{c:Pc}{b3:Nat} (h:Us w wx c b3) (g:Grown wx wy):Us w wy c b3:=⟨h.g.trans' g,zk g h.a,zk g h.z,zk g h.f,h.h3⟩
theorem Us.same {w wx:World}{c:Pc}{b3 k:Nat}{v:Value} (h:Us w wx c b3) (hv:c.cells[k]? = some v):Us w (wx.setCell ⟨w.heap.size,k,none⟩ v) c b3:=
 ⟨qB h.g (Nat.le_refl _),pB h.a hv,zV h.z (zo (by show w.heap.size+1≠_;omega)),zV h.f (zo h.h3),h.h3⟩
theorem used_call {w:World}{c:Pc} (hc:Nrm c):Calls Tryz.prog 47 #[.agg c.cells.toArray] w (fun e w2=>e = .returned (.agg c.cells.toArray)∧Grown w w2):=by
 have HC:=Lib.hid hc
 have hk:=hc.k
 clear hc
 go_enter Tryz.func47,Tryz.ntmps47
 go_upto_region 2 with (first
  | (go_at_call 31;(with_reducible refine (uses31_call (k:=c.k) (by omega)).mono ?_);rintro e w2 ⟨rfl,g2⟩;have U2:RowKit.Hid (Us w (w2.alloc (.cells #[.bool (useB c.k 0),.bool (useB c.k 1),.bool (useB c.k 2),.bool (useB c.k 3),.bool (useB c.k 4),.bool (useB c.k 5),.bool (useB c.k 6),.bool (useB c.k 7),.bool (useB c.k 8)] 78)) c w2.heap.size):=Lib.hid ⟨(((za _ _).trans' (za _ _)).trans' g2).trans' (za _ _),zk (((za _ _).trans' g2).trans' (za _ _)) (zn w),zk (g2.trans' (za _ _)) (jS (by rw [zQ])),zn w2,fun e=>by have:=g2.size;rw [zQ,zQ]at this;omega⟩;clear g2))
 go_cut [9,10] from 4 to 35 (fun s9 s10 wx=>s9=WZ w.heap.size∧s10 = .int .i64 0∧Us w wx c w2.heap.size)
 case first=>
  go_wp2_with (first
   | (go_at_call 32;(with_reducible refine (ZM U2.out.a).mono ?_);rintro e w4 ⟨rfl,g4⟩;have U4:=Lib.hid (U2.out.grown g4);clear g4))
  go_meet
  case rel=>exact ⟨rfl,rfl,U4.out⟩
 case rest=>
  obtain ⟨rfl,rfl,hu⟩:=hcut
  have U5:=Lib.hid hu
  clear hu U2
  obtain ⟨b3,hb3⟩:∃ b3,b3=w2.heap.size:=⟨_,rfl⟩
  rw [← hb3]at U5
  rw [← hb3]
  clear hb3
  go_wp2_with fail
  go_loopg [10] 6 (fun g i wx=>Us w wx c b3∧∃ j:Nat,j+g=6∧i = .int .i64 j)
  case atStart=>exact ⟨U5.out,0,rfl,rfl⟩
  case round=>
   obtain ⟨hu,j,hj,hi⟩:=hrel
   have UJ:=Lib.hid hu
   clear hu U5
   cases gk with
   | succ g=>
    have f0:=(zc (k:=0) UJ.out.f rfl).1
    have hj6:j=0∨j=1∨j=2∨j=3∨j=4∨j=5:=by omega
    rcases hj6 with rfl | rfl | rfl | rfl | rfl | rfl
    ·have hi':_=Value.int .i64 0:=hi
     subst hi'
     have fj:=(zc (k:=0) UJ.out.f rfl).1
     obtain ⟨xj,yj⟩:=zc (k:=1) UJ.out.a rfl
     have hp:=fun w1=>(jh w.heap.size w1).1
     go_wp2_with fail
     ·go_roundg g
      case measure=>omega
      case rel=>exact ⟨UJ.out.same (k:=1) (by rw [show c.cells[1]? = some (.int .i64 (c.n0:Nat)) from rfl,HC.out.n0.2 (jR ‹(!useB c.k 0)=true›)];rfl),1,by omega,rfl⟩
     ·go_roundg g
      case measure=>omega
      case rel=>exact ⟨UJ.out,1,by omega,rfl⟩
    ·have hi':_=Value.int .i64 1:=hi
     subst hi'
     have fj:=(zc (k:=1) UJ.out.f rfl).1
     obtain ⟨xj,yj⟩:=zc (k:=2) UJ.out.a rfl
     have hp:=fun w1=>(jh w.heap.size w1).2.1
     go_wp2_with fail
     ·go_roundg g
      case measure=>omega
      case rel=>exact ⟨UJ.out.same (k:=2) (by rw [show c.cells[2]? = some (.int .i64 (c.n1:Nat)) from rfl,HC.out.n1.2 (jR ‹(!useB c.k 1)=true›)];rfl),2,by omega,rfl⟩
     ·go_roundg g
      case measure=>omega
      case rel=>exact ⟨UJ.out,2,by omega,rfl⟩
    ·have hi':_=Value.int .i64 2:=hi
     subst hi'
     have fj:=(zc (k:=2) UJ.out.f rfl).1
     obtain ⟨xj,yj⟩:=zc (k:=3) UJ.out.a rfl
     have hp:=fun w1=>(jh w.heap.size w1).2.2.1
     go_wp2_with fail
     ·go_roundg g
      case measure=>omega
      case rel=>exact ⟨UJ.out.same (k:=3) (by rw [show c.cells[3]? = some (.int .i64 (c.n2:Nat)) from rfl,HC.out.n2.2 (jR ‹(!useB c.k 2)=true›)];rfl),3,by omega,rfl⟩
     ·go_roundg g
      case measure=>omega
      case rel=>exact ⟨UJ.out,3,by omega,rfl⟩
    ·have hi':_=Value.int .i64 3:=hi
     subst hi'
     have fj:=(zc (k:=3) UJ.out.f rfl).1
     obtain ⟨xj,yj⟩:=zc (k:=4) UJ.out.a rfl
     have hp:=fun w1=>(jh w.heap.size w1).2.2.2.1
     go_wp2_with fail
     ·go_roundg g
      case measure=>omega
      case rel=>exact ⟨UJ.out.same (k:=4) (by rw [show c.cells[4]? = some (.int .i64 (c.n3:Nat)) from rfl,HC.out.n3.2 (jR ‹(!useB c.k 3)=true›)];rfl),4,by omega,rfl⟩
     ·go_roundg g
      case measure=>omega
      case rel=>exact ⟨UJ.out,4,by omega,rfl⟩
    ·have hi':_=Value.int .i64 4:=hi
     subst hi'
     have fj:=(zc (k:=4) UJ.out.f rfl).1
     obtain ⟨xj,yj⟩:=zc (k:=5) UJ.out.a rfl
     have hp:=fun w1=>(jh w.heap.size w1).2.2.2.2.1
     go_wp2_with fail
     ·go_roundg g
      case measure=>omega
      case rel=>exact ⟨UJ.out.same (k:=5) (by rw [show c.cells[5]? = some (.int .i64 (c.n4:Nat)) from rfl,HC.out.n4.2 (jR ‹(!useB c.k 4)=true›)];rfl),5,by omega,rfl⟩
     ·go_roundg g
      case measure=>omega
      case rel=>exact ⟨UJ.out,5,by omega,rfl⟩
    ·have hi':_=Value.int .i64 5:=hi
     subst hi'
     have fj:=(zc (k:=5) UJ.out.f rfl).1
     obtain ⟨xj,yj⟩:=zc (k:=6) UJ.out.a rfl
     have hp:=fun w1=>(jh w.heap.size w1).2.2.2.2.2
     go_wp2_with fail
     ·go_roundg g
      case measure=>omega
      case rel=>exact ⟨UJ.out.same (k:=6) (by rw [show c.cells[6]? = some (.int .i64 (c.n5:Nat)) from rfl,HC.out.n5.2 (jR ‹(!useB c.k 5)=true›)];rfl),6,by omega,rfl⟩
     ·go_roundg g
      case measure=>omega
      case rel=>exact ⟨UJ.out,6,by omega,rfl⟩
   | zero=>
    obtain rfl:j=6:=by omega
    have hi':_=Value.int .i64 6:=hi
    subst hi'
    have f0:=(zc (k:=0) UJ.out.f rfl).1
    have f6:=(zc (k:=6) UJ.out.f rfl).1
    go_upto_if 24 with fail
    go_cut [] from 4 to 35 (fun wx=>Us w wx c b3)
    case first=>
     have a0:=(zc (k:=0) UJ.out.a rfl).1
     obtain ⟨a7,y7⟩:=zc (k:=7) UJ.out.a rfl
     go_wp2_with fail
     ·go_meet
      case rel=>exact UJ.out.same (k:=7) (by rw [show c.cells[7]? = some (.string (str c.nm)) from rfl,HC.out.nm.2 (jR ‹(!useB c.k 6)=true›)];rfl)
     ·go_meet
      case rel=>exact UJ.out
    case rest=>
     have UK:=Lib.hid hcut
     clear hcut UJ f0 f6
     have f0:=(zc (k:=0) UK.out.f rfl).1
     have f7:=(zc (k:=7) UK.out.f rfl).1
     go_upto_if 28 with fail
     go_cut [] from 4 to 35 (fun wx=>Us w wx c b3)
     case first=>
      have a0:=(zc (k:=0) UK.out.a rfl).1
      obtain ⟨a8,y8⟩:=zc (k:=8) UK.out.a rfl
      go_wp2_with fail
      ·go_meet
       case rel=>exact UK.out.same (k:=8) (by rw [show c.cells[8]? = some (.string (str c.tx)) from rfl,HC.out.tx.2 (jR ‹(!useB c.k 7)=true›)];rfl)
      ·go_meet
       case rel=>exact UK.out
     case rest=>
      have UL:=Lib.hid hcut
      clear hcut UK f0 f7
      have f0:=(zc (k:=0) UL.out.f rfl).1
      have f8:=(zc (k:=8) UL.out.f rfl).1
      go_upto_if 32 with fail
      go_cut [] from 4 to 35 (fun wx=>Us w wx c b3)
      case first=>
       have a0:=(zc (k:=0) UL.out.a rfl).1
       obtain ⟨a9,y9⟩:=zc (k:=9) UL.out.a rfl
       obtain ⟨a10,y10⟩:=zc (k:=10) UL.out.a rfl
       obtain ⟨a11,y11⟩:=zc (k:=11) UL.out.a rfl
       go_wp2_with fail
       ·have hu:=jR ‹(!useB c.k 8)=true›
        go_meet
        case rel=>exact ((UL.out.same (k:=9) (by rw [show c.cells[9]? = some (.string (str c.ac)) from rfl,HC.out.ac.2 hu];rfl)).same (k:=10) (by rw [show c.cells[10]? = some (.string (str c.pa)) from rfl,HC.out.pa.2 hu];rfl)).same (k:=11) (by rw [show c.cells[11]? = some (.bool c.dp) from rfl,HC.out.dp hu])
       ·go_meet
        case rel=>exact UL.out
      case rest=>
       have UM:=Lib.hid hcut
       clear hcut UL f0 f8
       obtain ⟨x0,x1,x2,x3,x4,x5,x6,x7,x8,x9,x10,x11⟩:=qc UM.out.a
       go_wp2_with (first
        | (refine kO _ _ ZB UM.out.z rfl rfl (cs:=Pc.cells c) (fO _) rfl rfl rfl rfl ?_;intro w9 k1 k2;have R9:=Lib.hid k1;have O9:=Lib.hid k2;clear k1 k2))
       refine bodyPost_ret (zI (p:=2) (ty:=34) rfl _ _ (w.heap.size+1) _ _ rfl (zS R9.out) under34 rfl ZB) rfl ?_
       exact ⟨rfl,ji UM.out.g O9.out (by omega)⟩
end MK
end
end Go.AEv
