/- The program's Check of a change of which nothing is set that its kind does not use; its form out of the reference's; no bytes of one that is refused. Conditions: its fields are small. -/
import Derived.Test.YtmlimgmmpjhifaaGreatDoorH11x0
set_option maxHeartbeats 8000000
set_option maxRecDepth 100000
set_option linter.all false
namespace Go.AEv
section
open Go Go.Proofs TR
namespace MK
open Go.AEv.GT (zO qq)
open RD (qe)
attribute [local go_sem ↓] Go.wp_at_zero Go.wp_at_succ
structure Nrz (c:Pc):Prop where
 k:c.k≤18
 n0:c.n0≤1000000∧(useB c.k 0=false→c.n0=0)
 n1:c.n1≤1000000∧(useB c.k 1=false→c.n1=0)
 n2:c.n2≤1000000∧(useB c.k 2=false→c.n2=0)
 n3:c.n3≤1000000∧(useB c.k 3=false→c.n3=0)
 n4:c.n4≤1000000∧(useB c.k 4=false→c.n4=0)
 n5:c.n5≤1000000∧(useB c.k 5=false→c.n5=0)
 nm:c.nm.length≤20∧(useB c.k 6=false→c.nm=[])
 tx:c.tx.length≤10000∧(useB c.k 7=false→c.tx=[])
 ac:c.ac.length≤13∧(useB c.k 8=false→c.ac=[])
 pa:c.pa.length≤13∧(useB c.k 8=false→c.pa=[])
 dp:useB c.k 8=false→c.dp=false
theorem used_z {w:World}{c:Pc} (hc:Nrz c):Calls Tryz.prog 47 #[.agg c.cells.toArray] w (fun e w2=>e = .returned (.agg c.cells.toArray)∧Grown w w2):=by
 have HC:=Lib.hid hc
 have hk:=hc.k
 clear hc
 go_enter Tryz.func47,Tryz.ntmps47
 go_upto_region 2 with (first
  | (go_at_call 31;(with_reducible refine (uses31_call (k:=c.k) (by omega)).mono ?_);rintro e w2 ⟨rfl,g2⟩;have U2:RowKit.Hid (Us w (w2.alloc (.cells #[.bool (useB c.k 0),.bool (useB c.k 1),.bool (useB c.k 2),.bool (useB c.k 3),.bool (useB c.k 4),.bool (useB c.k 5),.bool (useB c.k 6),.bool (useB c.k 7),.bool (useB c.k 8)] 78)) c w2.heap.size):=Lib.hid ⟨(((za _ _).trans' (za _ _)).trans' g2).trans' (za _ _),zk (((za _ _).trans' g2).trans' (za _ _)) (zn w),zk (g2.trans' (za _ _)) (jS (by rw [zQ])),zn w2,fun e=>by have:=g2.size;rw [zQ,zQ]at this;omega⟩;clear g2))
 go_cut [9,10] from 4 to 35 (fun s9 s10 wx=>s9=WZ w.heap.size∧s10 = .int .i64 0∧Us w wx c w2.heap.size)
 case first=>
  go_wp2_with (first
   | (go_at_call 32;(with_reducible refine (ZM U2.out.a).mono ?_);rintro e w4 ⟨rfl,g4⟩;have U4:=Lib.hid (U2.out.grown g4);clear g4))
  go_meet
  case rel=>exact ⟨rfl,rfl,U4.out⟩
 case rest=>
  obtain ⟨rfl,rfl,hu⟩:=hcut
  have U5:=Lib.hid hu
  clear hu U2
  obtain ⟨b3,hb3⟩:∃ b3,b3=w2.heap.size:=⟨_,rfl⟩
  rw [← hb3]at U5
  rw [← hb3]
  clear hb3
  go_wp2_with fail
  go_loopg [10] 6 (fun g i wx=>Us w wx c b3∧∃ j:Nat,j+g=6∧i = .int .i64 j)
  case atStart=>exact ⟨U5.out,0,rfl,rfl⟩
  case round=>
   obtain ⟨hu,j,hj,hi⟩:=hrel
   have UJ:=Lib.hid hu
   clear hu U5
   cases gk with
   | succ g=>
    have f0:=(zc (k:=0) UJ.out.f rfl).1
    have hj6:j=0∨j=1∨j=2∨j=3∨j=4∨j=5:=by omega
    rcases hj6 with rfl | rfl | rfl | rfl | rfl | rfl
    ·have hi':_=Value.int .i64 0:=hi
     subst hi'
     have fj:=(zc (k:=0) UJ.out.f rfl).1
     obtain ⟨xj,yj⟩:=zc (k:=1) UJ.out.a rfl
     have hp:=fun w1=>(jh w.heap.size w1).1
     go_wp2_with fail
     ·go_roundg g
      case measure=>omega
      case rel=>exact ⟨UJ.out.same (k:=1) (by rw [show c.cells[1]? = some (.int .i64 (c.n0:Nat)) from rfl,HC.out.n0.2 (jR ‹(!useB c.k 0)=true›)];rfl),1,by omega,rfl⟩
     ·go_roundg g
      case measure=>omega
      case rel=>exact ⟨UJ.out,1,by omega,rfl⟩
    ·have hi':_=Value.int .i64 1:=hi
     subst hi'
     have fj:=(zc (k:=1) UJ.out.f rfl).1
     obtain ⟨xj,yj⟩:=zc (k:=2) UJ.out.a rfl
     have hp:=fun w1=>(jh w.heap.size w1).2.1
     go_wp2_with fail
     ·go_roundg g
      case measure=>omega
      case rel=>exact ⟨UJ.out.same (k:=2) (by rw [show c.cells[2]? = some (.int .i64 (c.n1:Nat)) from rfl,HC.out.n1.2 (jR ‹(!useB c.k 1)=true›)];rfl),2,by omega,rfl⟩
     ·go_roundg g
      case measure=>omega
      case rel=>exact ⟨UJ.out,2,by omega,rfl⟩
    ·have hi':_=Value.int .i64 2:=hi
     subst hi'
     have fj:=(zc (k:=2) UJ.out.f rfl).1
     obtain ⟨xj,yj⟩:=zc (k:=3) UJ.out.a rfl
     have hp:=fun w1=>(jh w.heap.size w1).2.2.1
     go_wp2_with fail
     ·go_roundg g
      case measure=>omega
      case rel=>exact ⟨UJ.out.same (k:=3) (by rw [show c.cells[3]? = some (.int .i64 (c.n2:Nat)) from rfl,HC.out.n2.2 (jR ‹(!useB c.k 2)=true›)];rfl),3,by omega,rfl⟩
     ·go_roundg g
      case measure=>omega
      case rel=>exact ⟨UJ.out,3,by omega,rfl⟩
    ·have hi':_=Value.int .i64 3:=hi
     subst hi'
     have fj:=(zc (k:=3) UJ.out.f rfl).1
     obtain ⟨xj,yj⟩:=zc (k:=4) UJ.out.a rfl
     have hp:=fun w1=>(jh w.heap.size w1).2.2.2.1
     go_wp2_with fail
     ·go_roundg g
      case measure=>omega
      case rel=>exact ⟨UJ.out.same (k:=4) (by rw [show c.cells[4]? = some (.int .i64 (c.n3:Nat)) from rfl,HC.out.n3.2 (jR ‹(!useB c.k 3)=true›)];rfl),4,by omega,rfl⟩
     ·go_roundg g
      case measure=>omega
      case rel=>exact ⟨UJ.out,4,by omega,rfl⟩
    ·have hi':_=Value.int .i64 4:=hi
     subst hi'
     have fj:=(zc (k:=4) UJ.out.f rfl).1
     obtain ⟨xj,yj⟩:=zc (k:=5) UJ.out.a rfl
     have hp:=fun w1=>(jh w.heap.size w1).2.2.2.2.1
     go_wp2_with fail
     ·go_roundg g
      case measure=>omega
      case rel=>exact ⟨UJ.out.same (k:=5) (by rw [show c.cells[5]? = some (.int .i64 (c.n4:Nat)) from rfl,HC.out.n4.2 (jR ‹(!useB c.k 4)=true›)];rfl),5,by omega,rfl⟩
     ·go_roundg g
      case measure=>omega
      case rel=>exact ⟨UJ.out,5,by omega,rfl⟩
    ·have hi':_=Value.int .i64 5:=hi
     subst hi'
     have fj:=(zc (k:=5) UJ.out.f rfl).1
     obtain ⟨xj,yj⟩:=zc (k:=6) UJ.out.a rfl
     have hp:=fun w1=>(jh w.heap.size w1).2.2.2.2.2
     go_wp2_with fail
     ·go_roundg g
      case measure=>omega
      case rel=>exact ⟨UJ.out.same (k:=6) (by rw [show c.cells[6]? = some (.int .i64 (c.n5:Nat)) from rfl,HC.out.n5.2 (jR ‹(!useB c.k 5)=true›)];rfl),6,by omega,rfl⟩
     ·go_roundg g
      case measure=>omega
      case rel=>exact ⟨UJ.out,6,by omega,rfl⟩
   | zero=>
    obtain rfl:j=6:=by omega
    have hi':_=Value.int .i64 6:=hi
    subst hi'
    have f0:=(zc (k:=0) UJ.out.f rfl).1
    have f6:=(zc (k:=6) UJ.out.f rfl).1
    go_upto_if 24 with fail
    go_cut [] from 4 to 35 (fun wx=>Us w wx c b3)
    case first=>
     have a0:=(zc (k:=0) UJ.out.a rfl).1
     obtain ⟨a7,y7⟩:=zc (k:=7) UJ.out.a rfl
     go_wp2_with fail
     ·go_meet
      case rel=>exact UJ.out.same (k:=7) (by rw [show c.cells[7]? = some (.string (str c.nm)) from rfl,HC.out.nm.2 (jR ‹(!useB c.k 6)=true›)];rfl)
     ·go_meet
      case rel=>exact UJ.out
    case rest=>
     have UK:=Lib.hid hcut
     clear hcut UJ f0 f6
     have f0:=(zc (k:=0) UK.out.f rfl).1
     have f7:=(zc (k:=7) UK.out.f rfl).1
     go_upto_if 28 with fail
     go_cut [] from 4 to 35 (fun wx=>Us w wx c b3)
     case first=>
      have a0:=(zc (k:=0) UK.out.a rfl).1
      obtain ⟨a8,y8⟩:=zc (k:=8) UK.out.a rfl
      go_wp2_with fail
      ·go_meet
       case rel=>exact UK.out.same (k:=8) (by rw [show c.cells[8]? = some (.string (str c.tx)) from rfl,HC.out.tx.2 (jR ‹(!useB c.k 7)=true›)];rfl)
      ·go_meet
       case rel=>exact UK.out
     case rest=>
      have UL:=Lib.hid hcut
      clear hcut UK f0 f7
      have f0:=(zc (k:=0) UL.out.f rfl).1
      have f8:=(zc (k:=8) UL.out.f rfl).1
      go_upto_if 32 with fail
      go_cut [] from 4 to 35 (fun wx=>Us w wx c b3)
      case first=>
       have a0:=(zc (k:=0) UL.out.a rfl).1
       obtain ⟨a9,y9⟩:=zc (k:=9) UL.out.a rfl
       obtain ⟨a10,y10⟩:=zc (k:=10) UL.out.a rfl
       obtain ⟨a11,y11⟩:=zc (k:=11) UL.out.a rfl
       go_wp2_with fail
       ·have hu:=jR ‹(!useB c.k 8)=true›
        go_meet
        case rel=>exact ((UL.out.same (k:=9) (by rw [show c.cells[9]? = some (.string (str c.ac)) from rfl,HC.out.ac.2 hu];rfl)).same (k:=10) (by rw [show c.cells[10]? = some (.string (str c.pa)) from rfl,HC.out.pa.2 hu];rfl)).same (k:=11) (by rw [show c.cells[11]? = some (.bool c.dp) from rfl,HC.out.dp hu])
       ·go_meet
        case rel=>exact UL.out
      case rest=>
       have UM:=Lib.hid hcut
       clear hcut UL f0 f8
       obtain ⟨x0,x1,x2,x3,x4,x5,x6,x7,x8,x9,x10,x11⟩:=qc UM.out.a
       go_wp2_with (first
        | (refine kO _ _ ZB UM.out.z rfl rfl (cs:=Pc.cells c) (fO _) rfl rfl rfl rfl ?_;intro w9 k1 k2;have R9:=Lib.hid k1;have O9:=Lib.hid k2;clear k1 k2))
       refine bodyPost_ret (zI (p:=2) (ty:=34) rfl _ _ (w.heap.size+1) _ _ rfl (zS R9.out) under34 rfl ZB) rfl ?_
       exact ⟨rfl,ji UM.out.g O9.out (by omega)⟩
def Qb (c:Pc):Bool:=!decide (12<c.nm.length)&&!decide (12<c.ac.length)&&!decide (104<c.pa.length)&&!decide (8000<c.tx.length)
def CkZ (c:Pc) (w:World) (e:Ending) (w2:World):Prop:=e = .returned (.int .i64 (if Qb c then 0 else 3))∧Grown w w2
theorem BL {c:Pc}{w w2:World} (l1:¬ (12:Int)<((str c.nm).size:Int)) (l2:¬ (12:Int)<((str c.ac).size:Int)) (l3:¬ (104:Int)<((str c.pa).size:Int)) (l4:¬ (8000:Int)<((str c.tx).size:Int)) (g:Grown w w2):CkZ c w (.returned (.int .i64 0)) w2:=by
 rw [qL]at l1 l2 l3 l4
 have:Qb c=true:=by
  unfold Qb
  rw [decide_eq_false (by omega),decide_eq_false (by omega),decide_eq_false (by omega),decide_eq_false (by omega)]
  rfl
 unfold CkZ
 rw [this]
 exact ⟨rfl,g⟩
theorem bN {c:Pc}{w w2:World} (l:(12:Int)<((str c.nm).size:Int)∨(12:Int)<((str c.ac).size:Int)∨(104:Int)<((str c.pa).size:Int)∨(8000:Int)<((str c.tx).size:Int)) (g:Grown w w2):CkZ c w (.returned (.int .i64 3)) w2:=by
 rw [qL,qL,qL,qL]at l
 have:Qb c=false:=by
  unfold Qb
  rcases l with l | l | l | l
  ·rw [decide_eq_true (show 12<c.nm.length by omega)];rfl
  ·rw [decide_eq_true (show 12<c.ac.length by omega)];simp
  ·rw [decide_eq_true (show 104<c.pa.length by omega)];simp
  ·rw [decide_eq_true (show 8000<c.tx.length by omega)];simp
 unfold CkZ
 rw [this]
 exact ⟨rfl,g⟩
theorem l7 {w:World}{c:Pc} (hc:Nrz c) (hk:1≤c.k):Calls Tryz.prog 15 #[.agg c.cells.toArray] w (CkZ c w):=by
 have HC:=Lib.hid hc
 have h1:¬ (c.k:Int)<1:=by omega
 have h18:¬ (18:Int)<(c.k:Int):=by have:=hc.k;omega
 obtain ⟨W1,hW1⟩:∃ W1,W1=w.alloc (.cells #[.int .u8 (c.k:Nat),.int .i64 (c.n0:Nat),.int .i64 (c.n1:Nat),.int .i64 (c.n2:Nat),.int .i64 (c.n3:Nat),.int .i64 (c.n4:Nat),.int .i64 (c.n5:Nat),.string (str c.nm),.string (str c.tx),.string (str c.ac),.string (str c.pa),.bool c.dp] 34):=⟨_,rfl⟩
 have g1:Grown w W1:=by rw [hW1];exact za _ _
 have R1:zx Tryz.prog W1 (w.heap.size,0,0) 34 c.cells:=by rw [hW1];exact zn w
 have KS:RowKit.Hid (∀ wx,Grown W1 wx→(wx.cell? ⟨w.heap.size,0,none⟩=some (.int .u8 (c.k:Nat))∧wx.cell? ⟨w.heap.size,1,none⟩=some (.int .i64 (c.n0:Nat))∧wx.cell? ⟨w.heap.size,2,none⟩=some (.int .i64 (c.n1:Nat))∧wx.cell? ⟨w.heap.size,3,none⟩=some (.int .i64 (c.n2:Nat))∧wx.cell? ⟨w.heap.size,4,none⟩=some (.int .i64 (c.n3:Nat))∧wx.cell? ⟨w.heap.size,5,none⟩=some (.int .i64 (c.n4:Nat))∧wx.cell? ⟨w.heap.size,6,none⟩=some (.int .i64 (c.n5:Nat))∧wx.cell? ⟨w.heap.size,7,none⟩=some (.string (str c.nm))∧wx.cell? ⟨w.heap.size,8,none⟩=some (.string (str c.tx))∧wx.cell? ⟨w.heap.size,9,none⟩=some (.string (str c.ac))∧wx.cell? ⟨w.heap.size,10,none⟩=some (.string (str c.pa))∧wx.cell? ⟨w.heap.size,11,none⟩=some (.bool c.dp))):=Lib.hid (fun wx g=>qc (zk g R1))
 have G1:=Lib.hid g1
 have RR:=Lib.hid R1
 clear hc g1 R1
 go_enter Tryz.func15,Tryz.ntmps15
 go_upto_region 3 with fail
 rw [← hW1]
 clear hW1
 obtain ⟨u0,u1,u2,u3,u4,u5,u6,u7,u8,u9,u10,u11⟩:=KS.out W1 (RD.zL _)
 go_region_held3 (fun wx=>wx.cell? ⟨w.heap.size,0,none⟩=some (.int .u8 (c.k:Nat))∧wx.cell? ⟨w.heap.size,1,none⟩=some (.int .i64 (c.n0:Nat))∧wx.cell? ⟨w.heap.size,2,none⟩=some (.int .i64 (c.n1:Nat))∧wx.cell? ⟨w.heap.size,3,none⟩=some (.int .i64 (c.n2:Nat))∧wx.cell? ⟨w.heap.size,4,none⟩=some (.int .i64 (c.n3:Nat))∧wx.cell? ⟨w.heap.size,5,none⟩=some (.int .i64 (c.n4:Nat))∧wx.cell? ⟨w.heap.size,6,none⟩=some (.int .i64 (c.n5:Nat))∧wx.cell? ⟨w.heap.size,7,none⟩=some (.string (str c.nm))∧wx.cell? ⟨w.heap.size,8,none⟩=some (.string (str c.tx))∧wx.cell? ⟨w.heap.size,9,none⟩=some (.string (str c.ac))∧wx.cell? ⟨w.heap.size,10,none⟩=some (.string (str c.pa))∧wx.cell? ⟨w.heap.size,11,none⟩=some (.bool c.dp))
  (first | with_reducible exact ⟨u0,u1,u2,u3,u4,u5,u6,u7,u8,u9,u10,u11⟩ | with_reducible exact KS.out _ (zp _) | with_reducible exact KS.out _ G5.out)
  (first
   | (go_at_call 47;(with_reducible refine (used_z HC.out).mono ?_);rintro e w5 ⟨rfl,g5⟩;have G5:=Lib.hid ((zp _).trans' g5);clear g5))
 dsimp only [Exit.then]
 have R5:=Lib.hid (zk G5.out RR.out)
 clear u0 u1 u2 u3 u4 u5 u6 u7 u8 u9 u10 u11
 obtain ⟨u0,u1,u2,u3,u4,u5,u6,u7,u8,u9,u10,u11⟩:=qc R5.out
 have q0:=HC.out.n0.1
 have q1:=HC.out.n1.1
 have q2:=HC.out.n2.1
 have q3:=HC.out.n3.1
 have q4:=HC.out.n4.1
 have q5:=HC.out.n5.1
 go_wp2_with fail
 go_loopg [30] 6 (fun g i wx=>wx=w5∧∃ j:Nat,j+g=6∧i = .int .i64 j)
 case atStart=>exact ⟨rfl,0,rfl,rfl⟩
 case round=>
  obtain ⟨rfl,j,hj,hi⟩:=hrel
  cases gk with
  | succ g=>
   have hj6:j=0∨j=1∨j=2∨j=3∨j=4∨j=5:=by omega
   rcases hj6 with rfl | rfl | rfl | rfl | rfl | rfl
   ·have hi':_=Value.int .i64 0:=hi
    subst hi'
    have qa:¬ (c.n0:Int)<0:=by omega
    have qb:¬ (1000000:Int)<(c.n0:Int):=by omega
    have hp:=fun w1=>(yO (c.n0:Nat) (c.n1:Nat) (c.n2:Nat) (c.n3:Nat) (c.n4:Nat) (c.n5:Nat) w1).1
    go_wp2_with fail
    go_roundg g
    case measure=>omega
    case rel=>exact ⟨rfl,1,by omega,rfl⟩
   ·have hi':_=Value.int .i64 1:=hi
    subst hi'
    have qa:¬ (c.n1:Int)<0:=by omega
    have qb:¬ (1000000:Int)<(c.n1:Int):=by omega
    have hp:=fun w1=>(yO (c.n0:Nat) (c.n1:Nat) (c.n2:Nat) (c.n3:Nat) (c.n4:Nat) (c.n5:Nat) w1).2.1
    go_wp2_with fail
    go_roundg g
    case measure=>omega
    case rel=>exact ⟨rfl,2,by omega,rfl⟩
   ·have hi':_=Value.int .i64 2:=hi
    subst hi'
    have qa:¬ (c.n2:Int)<0:=by omega
    have qb:¬ (1000000:Int)<(c.n2:Int):=by omega
    have hp:=fun w1=>(yO (c.n0:Nat) (c.n1:Nat) (c.n2:Nat) (c.n3:Nat) (c.n4:Nat) (c.n5:Nat) w1).2.2.1
    go_wp2_with fail
    go_roundg g
    case measure=>omega
    case rel=>exact ⟨rfl,3,by omega,rfl⟩
   ·have hi':_=Value.int .i64 3:=hi
    subst hi'
    have qa:¬ (c.n3:Int)<0:=by omega
    have qb:¬ (1000000:Int)<(c.n3:Int):=by omega
    have hp:=fun w1=>(yO (c.n0:Nat) (c.n1:Nat) (c.n2:Nat) (c.n3:Nat) (c.n4:Nat) (c.n5:Nat) w1).2.2.2.1
    go_wp2_with fail
    go_roundg g
    case measure=>omega
    case rel=>exact ⟨rfl,4,by omega,rfl⟩
   ·have hi':_=Value.int .i64 4:=hi
    subst hi'
    have qa:¬ (c.n4:Int)<0:=by omega
    have qb:¬ (1000000:Int)<(c.n4:Int):=by omega
    have hp:=fun w1=>(yO (c.n0:Nat) (c.n1:Nat) (c.n2:Nat) (c.n3:Nat) (c.n4:Nat) (c.n5:Nat) w1).2.2.2.2.1
    go_wp2_with fail
    go_roundg g
    case measure=>omega
    case rel=>exact ⟨rfl,5,by omega,rfl⟩
   ·have hi':_=Value.int .i64 5:=hi
    subst hi'
    have qa:¬ (c.n5:Int)<0:=by omega
    have qb:¬ (1000000:Int)<(c.n5:Int):=by omega
    have hp:=fun w1=>(yO (c.n0:Nat) (c.n1:Nat) (c.n2:Nat) (c.n3:Nat) (c.n4:Nat) (c.n5:Nat) w1).2.2.2.2.2
    go_wp2_with fail
    go_roundg g
    case measure=>omega
    case rel=>exact ⟨rfl,6,by omega,rfl⟩
  | zero=>
   obtain rfl:j=6:=by omega
   have hi':_=Value.int .i64 6:=hi
   subst hi'
   by_cases l1:(12:Int)<((str c.nm).size:Int)
   ·go_wp2_with fail
    go_ret
    exact bN (.inl l1) (G1.out.trans' G5.out)
   by_cases l2:(12:Int)<((str c.ac).size:Int)
   ·go_wp2_with fail
    go_ret
    exact bN (.inr (.inl l2)) (G1.out.trans' G5.out)
   by_cases l3:(104:Int)<((str c.pa).size:Int)
   ·go_wp2_with fail
    go_ret
    exact bN (.inr (.inr (.inl l3))) (G1.out.trans' G5.out)
   by_cases l4:(8000:Int)<((str c.tx).size:Int)
   ·go_wp2_with fail
    go_ret
    exact bN (.inr (.inr (.inr l4))) (G1.out.trans' G5.out)
   go_wp2_with fail
   go_ret
   exact BL (by omega) (by omega) (by omega) (by omega) (G1.out.trans' G5.out)
theorem uW {x:Ch}:Qb (qm x)=Kx x:=by
 unfold Qb Kx qm
 rw [kI,kI,kI,kI]
theorem useB_k {x:Ch}:(qm x).k=x.k.toNat:=rfl
theorem fR {x:Ch} (h:x.Ok) (z:Zr x):Nrz (qm x):=by
 have hb:=h.b
 have hu:=h.u
 have hr:=h.r
 have ho:=h.o
 have hs:=h.s
 have hd:=h.d
 have h1:=h.k1
 have e0:sb ⟨#[]⟩=[]:=rfl
 refine ⟨by rw [useB_k];omega,⟨?_,fun q=>?_⟩,⟨?_,fun q=>?_⟩,⟨?_,fun q=>?_⟩,⟨?_,fun q=>?_⟩,⟨?_,fun q=>?_⟩,⟨?_,fun q=>?_⟩,⟨?_,fun q=>?_⟩,⟨?_,fun q=>?_⟩,⟨?_,fun q=>?_⟩,⟨?_,fun q=>?_⟩,fun q=>z.dp q⟩
 ·show x.b.toNat≤_;omega
 ·show x.b.toNat=0;rw [z.b q];rfl
 ·show x.u.toNat≤_;omega
 ·show x.u.toNat=0;rw [z.u q];rfl
 ·show x.r.toNat≤_;omega
 ·show x.r.toNat=0;rw [z.r q];rfl
 ·show x.o.toNat≤_;omega
 ·show x.o.toNat=0;rw [z.o q];rfl
 ·show x.s.toNat≤_;omega
 ·show x.s.toNat=0;rw [z.s q];rfl
 ·show x.d.toNat≤_;omega
 ·show x.d.toNat=0;rw [z.d q];rfl
 ·show (sb x.nm).length≤_;rw [kI];exact h.nm
 ·show sb x.nm=[];rw [z.nm q];rfl
 ·show (sb x.tx).length≤_;rw [kI];exact h.tx
 ·show sb x.tx=[];rw [z.tx q];rfl
 ·show (sb x.ac).length≤_;rw [kI];exact h.ac
 ·show sb x.ac=[];rw [z.ac q];rfl
 ·show (sb x.pa).length≤_;rw [kI];exact h.pa
 ·show sb x.pa=[];rw [z.pa q];rfl
theorem ri {c:Pc} (h:Nrz c) (f:Qb c=true):Nrm c:=by
 unfold Qb at f
 simp only [Bool.and_eq_true,Bool.not_eq_true',decide_eq_false_iff_not]at f
 obtain ⟨⟨⟨f1,f2⟩,f3⟩,f4⟩:=f
 exact ⟨h.k,h.n0,h.n1,h.n2,h.n3,h.n4,h.n5,⟨by omega,h.nm.2⟩,⟨by omega,h.tx.2⟩,⟨by omega,h.ac.2⟩,⟨by omega,h.pa.2⟩,h.dp⟩
theorem uj {c:Pc} (h:Nrm c):Qb c=true:=by
 have h1:=h.nm.1
 have h2:=h.tx.1
 have h3:=h.ac.1
 have h4:=h.pa.1
 unfold Qb
 rw [decide_eq_false (by omega),decide_eq_false (by omega),decide_eq_false (by omega),decide_eq_false (by omega)]
 rfl
theorem gT {x:Ch} (h:x.Ok):(qm x).cells=[.int .u8 x.k,.int .i64 x.b,.int .i64 x.u,.int .i64 x.r,.int .i64 x.o,.int .i64 x.s,.int .i64 x.d,.string x.nm,.string x.tx,.string x.ac,.string x.pa,.bool x.dp]:=by
 unfold Pc.cells qm
 dsimp only
 rw [Qz,Qz,Qz,Qz,Int.toNat_of_nonneg h.b.1,Int.toNat_of_nonneg h.u.1,Int.toNat_of_nonneg h.r.1,Int.toNat_of_nonneg h.o.1,Int.toNat_of_nonneg h.s.1,Int.toNat_of_nonneg h.d.1,Int.toNat_of_nonneg (show 0≤x.k by have:=h.k0;omega)]
end MK
end
end Go.AEv
