/- A change is checked. Conditions: what its kind does not use is nothing. -/
import Derived.Test.YtmlimgmmpjhifaaGreatDoorL8a
set_option maxHeartbeats 8000000
set_option maxRecDepth 100000
set_option linter.all false
namespace Go.AEv
section
open Go Go.Proofs TR
namespace MK
open Go.AEv.GT (zO qq)
attribute [local go_sem ↓] Go.wp_at_zero Go.wp_at_succ
theorem qL (l:List Nat):(str l).size=l.length:=by unfold str;show (l.map UInt8.ofNat).toArray.size=_;simp
theorem under98:Tryz.prog.underlying 98=some (.array 6 3):=by kernel_rfl
theorem yO (a0 a1 a2 a3 a4 a5:Int) (w:World):(Instr.index 98 (.agg #[.int .i64 a0,.int .i64 a1,.int .i64 a2,.int .i64 a3,.int .i64 a4,.int .i64 a5]) (.int .i64 0)).run Tryz.prog w = .ok (.int .i64 a0) w∧(Instr.index 98 (.agg #[.int .i64 a0,.int .i64 a1,.int .i64 a2,.int .i64 a3,.int .i64 a4,.int .i64 a5]) (.int .i64 1)).run Tryz.prog w = .ok (.int .i64 a1) w∧(Instr.index 98 (.agg #[.int .i64 a0,.int .i64 a1,.int .i64 a2,.int .i64 a3,.int .i64 a4,.int .i64 a5]) (.int .i64 2)).run Tryz.prog w = .ok (.int .i64 a2) w∧(Instr.index 98 (.agg #[.int .i64 a0,.int .i64 a1,.int .i64 a2,.int .i64 a3,.int .i64 a4,.int .i64 a5]) (.int .i64 3)).run Tryz.prog w = .ok (.int .i64 a3) w∧(Instr.index 98 (.agg #[.int .i64 a0,.int .i64 a1,.int .i64 a2,.int .i64 a3,.int .i64 a4,.int .i64 a5]) (.int .i64 4)).run Tryz.prog w = .ok (.int .i64 a4) w∧(Instr.index 98 (.agg #[.int .i64 a0,.int .i64 a1,.int .i64 a2,.int .i64 a3,.int .i64 a4,.int .i64 a5]) (.int .i64 5)).run Tryz.prog w = .ok (.int .i64 a5) w:=by
 refine ⟨?_,?_,?_,?_,?_,?_⟩<;>simp [Instr.index,run_underlying under98,go_sem]
theorem gS {w:World}{c:Pc} (hk:c.k=0):Calls Tryz.prog 15 #[.agg c.cells.toArray] w (fun e w2=>e = .returned (.int .i64 1)∧Grown w w2):=by
 have h1:(c.k:Int)<1:=by omega
 go_enter Tryz.func15,Tryz.ntmps15
 go_wp2
 go_ret
 exact ⟨rfl,za _ _⟩
theorem qJ {w:World}{c:Pc} (hc:Nrm c) (hk:1≤c.k):Calls Tryz.prog 15 #[.agg c.cells.toArray] w (fun e w2=>e = .returned (.int .i64 0)∧Grown w w2):=by
 have HC:=Lib.hid hc
 have h1:¬ (c.k:Int)<1:=by omega
 have h18:¬ (18:Int)<(c.k:Int):=by have:=hc.k;omega
 have l1:¬ (12:Int)<((str c.nm).size:Int):=by rw [qL];have:=hc.nm.1;omega
 have l2:¬ (8000:Int)<((str c.tx).size:Int):=by rw [qL];have:=hc.tx.1;omega
 have l3:¬ (12:Int)<((str c.ac).size:Int):=by rw [qL];have:=hc.ac.1;omega
 have l4:¬ (104:Int)<((str c.pa).size:Int):=by rw [qL];have:=hc.pa.1;omega
 obtain ⟨W1,hW1⟩:∃ W1,W1=w.alloc (.cells #[.int .u8 (c.k:Nat),.int .i64 (c.n0:Nat),.int .i64 (c.n1:Nat),.int .i64 (c.n2:Nat),.int .i64 (c.n3:Nat),.int .i64 (c.n4:Nat),.int .i64 (c.n5:Nat),.string (str c.nm),.string (str c.tx),.string (str c.ac),.string (str c.pa),.bool c.dp] 34):=⟨_,rfl⟩
 have g1:Grown w W1:=by rw [hW1];exact za _ _
 have R1:zx Tryz.prog W1 (w.heap.size,0,0) 34 c.cells:=by rw [hW1];exact zn w
 have KS:RowKit.Hid (∀ wx,Grown W1 wx→(wx.cell? ⟨w.heap.size,0,none⟩=some (.int .u8 (c.k:Nat))∧wx.cell? ⟨w.heap.size,1,none⟩=some (.int .i64 (c.n0:Nat))∧wx.cell? ⟨w.heap.size,2,none⟩=some (.int .i64 (c.n1:Nat))∧wx.cell? ⟨w.heap.size,3,none⟩=some (.int .i64 (c.n2:Nat))∧wx.cell? ⟨w.heap.size,4,none⟩=some (.int .i64 (c.n3:Nat))∧wx.cell? ⟨w.heap.size,5,none⟩=some (.int .i64 (c.n4:Nat))∧wx.cell? ⟨w.heap.size,6,none⟩=some (.int .i64 (c.n5:Nat))∧wx.cell? ⟨w.heap.size,7,none⟩=some (.string (str c.nm))∧wx.cell? ⟨w.heap.size,8,none⟩=some (.string (str c.tx))∧wx.cell? ⟨w.heap.size,9,none⟩=some (.string (str c.ac))∧wx.cell? ⟨w.heap.size,10,none⟩=some (.string (str c.pa))∧wx.cell? ⟨w.heap.size,11,none⟩=some (.bool c.dp))):=Lib.hid (fun wx g=>qc (zk g R1))
 have G1:=Lib.hid g1
 have RR:=Lib.hid R1
 clear hc g1 R1
 go_enter Tryz.func15,Tryz.ntmps15
 go_upto_region 3 with fail
 rw [← hW1]
 clear hW1
 obtain ⟨u0,u1,u2,u3,u4,u5,u6,u7,u8,u9,u10,u11⟩:=KS.out W1 (RD.zL _)
 go_region_held3 (fun wx=>wx.cell? ⟨w.heap.size,0,none⟩=some (.int .u8 (c.k:Nat))∧wx.cell? ⟨w.heap.size,1,none⟩=some (.int .i64 (c.n0:Nat))∧wx.cell? ⟨w.heap.size,2,none⟩=some (.int .i64 (c.n1:Nat))∧wx.cell? ⟨w.heap.size,3,none⟩=some (.int .i64 (c.n2:Nat))∧wx.cell? ⟨w.heap.size,4,none⟩=some (.int .i64 (c.n3:Nat))∧wx.cell? ⟨w.heap.size,5,none⟩=some (.int .i64 (c.n4:Nat))∧wx.cell? ⟨w.heap.size,6,none⟩=some (.int .i64 (c.n5:Nat))∧wx.cell? ⟨w.heap.size,7,none⟩=some (.string (str c.nm))∧wx.cell? ⟨w.heap.size,8,none⟩=some (.string (str c.tx))∧wx.cell? ⟨w.heap.size,9,none⟩=some (.string (str c.ac))∧wx.cell? ⟨w.heap.size,10,none⟩=some (.string (str c.pa))∧wx.cell? ⟨w.heap.size,11,none⟩=some (.bool c.dp))
  (first | with_reducible exact ⟨u0,u1,u2,u3,u4,u5,u6,u7,u8,u9,u10,u11⟩ | with_reducible exact KS.out _ (zp _) | with_reducible exact KS.out _ G5.out)
  (first
   | (go_at_call 47;(with_reducible refine (used_call HC.out).mono ?_);rintro e w5 ⟨rfl,g5⟩;have G5:=Lib.hid ((zp _).trans' g5);clear g5))
 dsimp only [Exit.then]
 have R5:=Lib.hid (zk G5.out RR.out)
 clear u0 u1 u2 u3 u4 u5 u6 u7 u8 u9 u10 u11
 obtain ⟨u0,u1,u2,u3,u4,u5,u6,u7,u8,u9,u10,u11⟩:=qc R5.out
 have q0:=HC.out.n0.1
 have q1:=HC.out.n1.1
 have q2:=HC.out.n2.1
 have q3:=HC.out.n3.1
 have q4:=HC.out.n4.1
 have q5:=HC.out.n5.1
 go_wp2_with fail
 go_loopg [30] 6 (fun g i wx=>wx=w5∧∃ j:Nat,j+g=6∧i = .int .i64 j)
 case atStart=>exact ⟨rfl,0,rfl,rfl⟩
 case round=>
  obtain ⟨rfl,j,hj,hi⟩:=hrel
  cases gk with
  | succ g=>
   have hj6:j=0∨j=1∨j=2∨j=3∨j=4∨j=5:=by omega
   rcases hj6 with rfl | rfl | rfl | rfl | rfl | rfl
   ·have hi':_=Value.int .i64 0:=hi
    subst hi'
    have qa:¬ (c.n0:Int)<0:=by omega
    have qb:¬ (1000000:Int)<(c.n0:Int):=by omega
    have hp:=fun w1=>(yO (c.n0:Nat) (c.n1:Nat) (c.n2:Nat) (c.n3:Nat) (c.n4:Nat) (c.n5:Nat) w1).1
    go_wp2_with fail
    go_roundg g
    case measure=>omega
    case rel=>exact ⟨rfl,1,by omega,rfl⟩
   ·have hi':_=Value.int .i64 1:=hi
    subst hi'
    have qa:¬ (c.n1:Int)<0:=by omega
    have qb:¬ (1000000:Int)<(c.n1:Int):=by omega
    have hp:=fun w1=>(yO (c.n0:Nat) (c.n1:Nat) (c.n2:Nat) (c.n3:Nat) (c.n4:Nat) (c.n5:Nat) w1).2.1
    go_wp2_with fail
    go_roundg g
    case measure=>omega
    case rel=>exact ⟨rfl,2,by omega,rfl⟩
   ·have hi':_=Value.int .i64 2:=hi
    subst hi'
    have qa:¬ (c.n2:Int)<0:=by omega
    have qb:¬ (1000000:Int)<(c.n2:Int):=by omega
    have hp:=fun w1=>(yO (c.n0:Nat) (c.n1:Nat) (c.n2:Nat) (c.n3:Nat) (c.n4:Nat) (c.n5:Nat) w1).2.2.1
    go_wp2_with fail
    go_roundg g
    case measure=>omega
    case rel=>exact ⟨rfl,3,by omega,rfl⟩
   ·have hi':_=Value.int .i64 3:=hi
    subst hi'
    have qa:¬ (c.n3:Int)<0:=by omega
    have qb:¬ (1000000:Int)<(c.n3:Int):=by omega
    have hp:=fun w1=>(yO (c.n0:Nat) (c.n1:Nat) (c.n2:Nat) (c.n3:Nat) (c.n4:Nat) (c.n5:Nat) w1).2.2.2.1
    go_wp2_with fail
    go_roundg g
    case measure=>omega
    case rel=>exact ⟨rfl,4,by omega,rfl⟩
   ·have hi':_=Value.int .i64 4:=hi
    subst hi'
    have qa:¬ (c.n4:Int)<0:=by omega
    have qb:¬ (1000000:Int)<(c.n4:Int):=by omega
    have hp:=fun w1=>(yO (c.n0:Nat) (c.n1:Nat) (c.n2:Nat) (c.n3:Nat) (c.n4:Nat) (c.n5:Nat) w1).2.2.2.2.1
    go_wp2_with fail
    go_roundg g
    case measure=>omega
    case rel=>exact ⟨rfl,5,by omega,rfl⟩
   ·have hi':_=Value.int .i64 5:=hi
    subst hi'
    have qa:¬ (c.n5:Int)<0:=by omega
    have qb:¬ (1000000:Int)<(c.n5:Int):=by omega
    have hp:=fun w1=>(yO (c.n0:Nat) (c.n1:Nat) (c.n2:Nat) (c.n3:Nat) (c.n4:Nat) (c.n5:Nat) w1).2.2.2.2.2
    go_wp2_with fail
    go_roundg g
    case measure=>omega
    case rel=>exact ⟨rfl,6,by omega,rfl⟩
  | zero=>
   obtain rfl:j=6:=by omega
   have hi':_=Value.int .i64 6:=hi
   subst hi'
   go_wp2_with fail
   go_ret
   exact ⟨rfl,G1.out.trans' G5.out⟩
end MK
end
end Go.AEv
