/- The text of an expression: two operands (c). Conditions: the tree lies in memory. -/
import Derived.Test.YtmlimgmmpjhifaaGreatDoorL3a
set_option maxHeartbeats 8000000
set_option maxRecDepth 100000
set_option linter.all false
namespace Go.AEv
section
open Go Go.Proofs TR
namespace MK
open Go.AEv.GT (zO qq)
attribute [local go_sem ↓] Go.wp_at_zero Go.wp_at_succ
theorem tK {w:World}{p1:Option Addr}{n1 c1 b o c2 D:Nat}{n x0 x1 y0 y1:Int}{q1 q2 r1 r2:Option Addr}{k1 l1 k2 l2 i1 j1 i2 j2:Nat} (hD:D≤10000000) (hx:OpT D w (.agg #[.int .i64 x0,.int .i64 x1,.slice q1 k1 l1,.slice q2 k2 l2])) (hy:OpT D w (.agg #[.int .i64 y0,.int .i64 y1,.slice r1 i1 j1,.slice r2 i2 j2]))
  (c0:w.cell? ⟨b,o,none⟩=some (.int .i64 x0)) (c1':w.cell? ⟨b,o+1,none⟩=some (.int .i64 x1)) (c2':w.cell? ⟨b,o+2,none⟩=some (.slice q1 k1 l1)) (c3:w.cell? ⟨b,o+3,none⟩=some (.slice q2 k2 l2))
  (d0:w.cell? ⟨b,o+4,none⟩=some (.int .i64 y0)) (d1:w.cell? ⟨b,o+5,none⟩=some (.int .i64 y1)) (d2:w.cell? ⟨b,o+6,none⟩=some (.slice r1 i1 j1)) (d3:w.cell? ⟨b,o+7,none⟩=some (.slice r2 i2 j2)):Calls Tryz.prog 190 #[.agg #[.int .i64 14,.int .i64 n,.slice p1 n1 c1,.slice (some ⟨b,o,none⟩) 2 c2]] w (jW (3*D+9) w):=by
 have HX:=Lib.hid hx
 have HY:=Lib.hid hy
 have s1:(⟨#[32]⟩:ByteArray).size=1:=rfl
 have s2:(⟨#[62]⟩:ByteArray).size=1:=rfl
 obtain ⟨W1,hW1⟩:∃ W1,W1=w.alloc (.cells #[.int .i64 14,.int .i64 n,.slice p1 n1 c1,.slice (some ⟨b,o,none⟩) 2 c2] 152):=⟨_,rfl⟩
 have g1:Grown w W1:=by rw [hW1];exact za _ _
 have R1:zx Tryz.prog W1 (w.heap.size,0,0) 152 [.int .i64 14,.int .i64 n,.slice p1 n1 c1,.slice (some ⟨b,o,none⟩) 2 c2]:=by rw [hW1];exact zn w
 have KS:RowKit.Hid (∀ wx,Grown W1 wx→(wx.cell? ⟨w.heap.size,0,none⟩=some (.int .i64 14)∧wx.cell? ⟨w.heap.size,3,none⟩=some (.slice (some ⟨b,o,none⟩) 2 c2)∧wx.cell? ⟨b,o,none⟩=some (.int .i64 x0)∧wx.cell? ⟨b,o+1,none⟩=some (.int .i64 x1)∧wx.cell? ⟨b,o+2,none⟩=some (.slice q1 k1 l1)∧wx.cell? ⟨b,o+3,none⟩=some (.slice q2 k2 l2)∧wx.cell? ⟨b,o+4,none⟩=some (.int .i64 y0)∧wx.cell? ⟨b,o+5,none⟩=some (.int .i64 y1)∧wx.cell? ⟨b,o+6,none⟩=some (.slice r1 i1 j1)∧wx.cell? ⟨b,o+7,none⟩=some (.slice r2 i2 j2))):=Lib.hid (fun wx g=>⟨RD.ze (qG R1).1.1 g,RD.ze (qG R1).1.2.2.2 g,RD.ze c0 (g1.trans' g),RD.ze c1' (g1.trans' g),RD.ze c2' (g1.trans' g),RD.ze c3 (g1.trans' g),RD.ze d0 (g1.trans' g),RD.ze d1 (g1.trans' g),RD.ze d2 (g1.trans' g),RD.ze d3 (g1.trans' g)⟩)
 have G1:=Lib.hid g1
 clear hx hy g1 R1
 subst hW1
 go_enter Tryz.func190,Tryz.ntmps190
 go_wp2_with fail
 go_quiet (first | (go_at_call 269;exact Calls.quiet_of_same (Zd (m:=5) rfl)))
 go_wp2_with fail
 obtain ⟨WB,hWB⟩:∃ WB,WB=((w.alloc (.cells #[.int .i64 14,.int .i64 n,.slice p1 n1 c1,.slice (some ⟨b,o,none⟩) 2 c2] 152)).alloc (.cells #[.string ⟨#[97,110,100]⟩,.string ⟨#[111,114]⟩,.string ⟨#[45,62]⟩,.string ⟨#[60,61]⟩,.string ⟨#[60]⟩,.string ⟨#[62,61]⟩,.string ⟨#[62]⟩,.string ⟨#[61,61]⟩,.string ⟨#[43]⟩] 9)).drewN nq:=⟨_,rfl⟩
 have gb:Grown (w.alloc (.cells #[.int .i64 14,.int .i64 n,.slice p1 n1 c1,.slice (some ⟨b,o,none⟩) 2 c2] 152)) WB:=by rw [hWB];exact (za _ _).trans' (ql _ nq)
 rw [← hWB]
 have GB:=Lib.hid gb
 have GW:=Lib.hid (G1.out.trans' gb)
 obtain ⟨u0,u3,e0,e1,e2,e3,f0,f1,f2,f3⟩:=KS.out WB gb
 clear gb hWB c0 c1' c2' c3 d0 d1 d2 d3
 go_region_held3 (fun wx=>wx.cell? ⟨w.heap.size,0,none⟩=some (.int .i64 14)∧wx.cell? ⟨w.heap.size,3,none⟩=some (.slice (some ⟨b,o,none⟩) 2 c2)∧wx.cell? ⟨b,o,none⟩=some (.int .i64 x0)∧wx.cell? ⟨b,o+1,none⟩=some (.int .i64 x1)∧wx.cell? ⟨b,o+2,none⟩=some (.slice q1 k1 l1)∧wx.cell? ⟨b,o+3,none⟩=some (.slice q2 k2 l2)∧wx.cell? ⟨b,o+4,none⟩=some (.int .i64 y0)∧wx.cell? ⟨b,o+5,none⟩=some (.int .i64 y1)∧wx.cell? ⟨b,o+6,none⟩=some (.slice r1 i1 j1)∧wx.cell? ⟨b,o+7,none⟩=some (.slice r2 i2 j2))
  (first | exact ⟨u0,u3,e0,e1,e2,e3,f0,f1,f2,f3⟩ | exact KS.out _ (GB.out.trans' (zp _)) | exact KS.out _ (GB.out.trans' G5.out) | exact KS.out _ (GB.out.trans' G6.out))
  (first
   | (go_at_call 268;(with_reducible refine (HX.out _ 6 (GW.out.trans' (zp _))).mono ?_);rintro e w5 ⟨s5,rfl,z5,g5⟩;have G5:=Lib.hid ((zp _).trans' g5);have b1:¬ 9223372036854775807<s5.size+1:=(by omega);have b2:¬ 9223372036854775807<s5.size+1+1:=(by omega);have b3:¬ 9223372036854775807<s5.size+1+1+1:=(by omega);clear g5)
   | (go_at_call 268;(with_reducible refine (HY.out _ 6 (GW.out.trans' (zp _))).mono ?_);rintro e w5 ⟨s5,rfl,z5,g5⟩;have G5:=Lib.hid ((zp _).trans' g5);clear g5)
   | (go_at_call 268;(with_reducible refine (HX.out _ 6 (GW.out.trans' G5.out)).mono ?_);rintro e w6 ⟨s6,rfl,z6,g6⟩;have G6:=Lib.hid (G5.out.trans' g6);have b1:¬ 9223372036854775807<s6.size+1:=(by omega);have b2:¬ 9223372036854775807<s6.size+1+1:=(by omega);have b3:¬ 9223372036854775807<s6.size+1+1+1:=(by omega);have b4:¬ 9223372036854775807<s6.size+1+1+1+s5.size:=(by omega);clear g6)
   | (go_at_call 268;(with_reducible refine (HY.out _ 6 (GW.out.trans' G5.out)).mono ?_);rintro e w6 ⟨s6,rfl,z6,g6⟩;have G6:=Lib.hid (G5.out.trans' g6);have b4:¬ 9223372036854775807<s5.size+1+1+1+s6.size:=(by omega);clear g6))
 all_goals (
  dsimp only [Exit.then]
  go_wp2_with fail
  go_ret
  exact ⟨_,rfl,by simp only [ByteArray.size_append,s1,s2];omega,GW.out.trans' G6.out⟩)
theorem tJ {w:World}{p1:Option Addr}{n1 c1 b o c2 D:Nat}{n x0 x1 y0 y1:Int}{q1 q2 r1 r2:Option Addr}{k1 l1 k2 l2 i1 j1 i2 j2:Nat} (hD:D≤10000000) (hx:OpT D w (.agg #[.int .i64 x0,.int .i64 x1,.slice q1 k1 l1,.slice q2 k2 l2])) (hy:OpT D w (.agg #[.int .i64 y0,.int .i64 y1,.slice r1 i1 j1,.slice r2 i2 j2]))
  (c0:w.cell? ⟨b,o,none⟩=some (.int .i64 x0)) (c1':w.cell? ⟨b,o+1,none⟩=some (.int .i64 x1)) (c2':w.cell? ⟨b,o+2,none⟩=some (.slice q1 k1 l1)) (c3:w.cell? ⟨b,o+3,none⟩=some (.slice q2 k2 l2))
  (d0:w.cell? ⟨b,o+4,none⟩=some (.int .i64 y0)) (d1:w.cell? ⟨b,o+5,none⟩=some (.int .i64 y1)) (d2:w.cell? ⟨b,o+6,none⟩=some (.slice r1 i1 j1)) (d3:w.cell? ⟨b,o+7,none⟩=some (.slice r2 i2 j2)):Calls Tryz.prog 190 #[.agg #[.int .i64 15,.int .i64 n,.slice p1 n1 c1,.slice (some ⟨b,o,none⟩) 2 c2]] w (jW (3*D+9) w):=by
 have HX:=Lib.hid hx
 have HY:=Lib.hid hy
 have s1:(⟨#[32]⟩:ByteArray).size=1:=rfl
 have s2:(⟨#[61,61]⟩:ByteArray).size=2:=rfl
 obtain ⟨W1,hW1⟩:∃ W1,W1=w.alloc (.cells #[.int .i64 15,.int .i64 n,.slice p1 n1 c1,.slice (some ⟨b,o,none⟩) 2 c2] 152):=⟨_,rfl⟩
 have g1:Grown w W1:=by rw [hW1];exact za _ _
 have R1:zx Tryz.prog W1 (w.heap.size,0,0) 152 [.int .i64 15,.int .i64 n,.slice p1 n1 c1,.slice (some ⟨b,o,none⟩) 2 c2]:=by rw [hW1];exact zn w
 have KS:RowKit.Hid (∀ wx,Grown W1 wx→(wx.cell? ⟨w.heap.size,0,none⟩=some (.int .i64 15)∧wx.cell? ⟨w.heap.size,3,none⟩=some (.slice (some ⟨b,o,none⟩) 2 c2)∧wx.cell? ⟨b,o,none⟩=some (.int .i64 x0)∧wx.cell? ⟨b,o+1,none⟩=some (.int .i64 x1)∧wx.cell? ⟨b,o+2,none⟩=some (.slice q1 k1 l1)∧wx.cell? ⟨b,o+3,none⟩=some (.slice q2 k2 l2)∧wx.cell? ⟨b,o+4,none⟩=some (.int .i64 y0)∧wx.cell? ⟨b,o+5,none⟩=some (.int .i64 y1)∧wx.cell? ⟨b,o+6,none⟩=some (.slice r1 i1 j1)∧wx.cell? ⟨b,o+7,none⟩=some (.slice r2 i2 j2))):=Lib.hid (fun wx g=>⟨RD.ze (qG R1).1.1 g,RD.ze (qG R1).1.2.2.2 g,RD.ze c0 (g1.trans' g),RD.ze c1' (g1.trans' g),RD.ze c2' (g1.trans' g),RD.ze c3 (g1.trans' g),RD.ze d0 (g1.trans' g),RD.ze d1 (g1.trans' g),RD.ze d2 (g1.trans' g),RD.ze d3 (g1.trans' g)⟩)
 have G1:=Lib.hid g1
 clear hx hy g1 R1
 subst hW1
 go_enter Tryz.func190,Tryz.ntmps190
 go_wp2_with fail
 go_quiet (first | (go_at_call 269;exact Calls.quiet_of_same (Zd (m:=5) rfl)))
 go_wp2_with fail
 obtain ⟨WB,hWB⟩:∃ WB,WB=((w.alloc (.cells #[.int .i64 15,.int .i64 n,.slice p1 n1 c1,.slice (some ⟨b,o,none⟩) 2 c2] 152)).alloc (.cells #[.string ⟨#[97,110,100]⟩,.string ⟨#[111,114]⟩,.string ⟨#[45,62]⟩,.string ⟨#[60,61]⟩,.string ⟨#[60]⟩,.string ⟨#[62,61]⟩,.string ⟨#[62]⟩,.string ⟨#[61,61]⟩,.string ⟨#[43]⟩] 9)).drewN nq:=⟨_,rfl⟩
 have gb:Grown (w.alloc (.cells #[.int .i64 15,.int .i64 n,.slice p1 n1 c1,.slice (some ⟨b,o,none⟩) 2 c2] 152)) WB:=by rw [hWB];exact (za _ _).trans' (ql _ nq)
 rw [← hWB]
 have GB:=Lib.hid gb
 have GW:=Lib.hid (G1.out.trans' gb)
 obtain ⟨u0,u3,e0,e1,e2,e3,f0,f1,f2,f3⟩:=KS.out WB gb
 clear gb hWB c0 c1' c2' c3 d0 d1 d2 d3
 go_region_held3 (fun wx=>wx.cell? ⟨w.heap.size,0,none⟩=some (.int .i64 15)∧wx.cell? ⟨w.heap.size,3,none⟩=some (.slice (some ⟨b,o,none⟩) 2 c2)∧wx.cell? ⟨b,o,none⟩=some (.int .i64 x0)∧wx.cell? ⟨b,o+1,none⟩=some (.int .i64 x1)∧wx.cell? ⟨b,o+2,none⟩=some (.slice q1 k1 l1)∧wx.cell? ⟨b,o+3,none⟩=some (.slice q2 k2 l2)∧wx.cell? ⟨b,o+4,none⟩=some (.int .i64 y0)∧wx.cell? ⟨b,o+5,none⟩=some (.int .i64 y1)∧wx.cell? ⟨b,o+6,none⟩=some (.slice r1 i1 j1)∧wx.cell? ⟨b,o+7,none⟩=some (.slice r2 i2 j2))
  (first | exact ⟨u0,u3,e0,e1,e2,e3,f0,f1,f2,f3⟩ | exact KS.out _ (GB.out.trans' (zp _)) | exact KS.out _ (GB.out.trans' G5.out) | exact KS.out _ (GB.out.trans' G6.out))
  (first
   | (go_at_call 268;(with_reducible refine (HX.out _ 6 (GW.out.trans' (zp _))).mono ?_);rintro e w5 ⟨s5,rfl,z5,g5⟩;have G5:=Lib.hid ((zp _).trans' g5);have b1:¬ 9223372036854775807<s5.size+1:=(by omega);have b2:¬ 9223372036854775807<s5.size+1+2:=(by omega);have b3:¬ 9223372036854775807<s5.size+1+2+1:=(by omega);clear g5)
   | (go_at_call 268;(with_reducible refine (HY.out _ 6 (GW.out.trans' (zp _))).mono ?_);rintro e w5 ⟨s5,rfl,z5,g5⟩;have G5:=Lib.hid ((zp _).trans' g5);clear g5)
   | (go_at_call 268;(with_reducible refine (HX.out _ 6 (GW.out.trans' G5.out)).mono ?_);rintro e w6 ⟨s6,rfl,z6,g6⟩;have G6:=Lib.hid (G5.out.trans' g6);have b1:¬ 9223372036854775807<s6.size+1:=(by omega);have b2:¬ 9223372036854775807<s6.size+1+2:=(by omega);have b3:¬ 9223372036854775807<s6.size+1+2+1:=(by omega);have b4:¬ 9223372036854775807<s6.size+1+2+1+s5.size:=(by omega);clear g6)
   | (go_at_call 268;(with_reducible refine (HY.out _ 6 (GW.out.trans' G5.out)).mono ?_);rintro e w6 ⟨s6,rfl,z6,g6⟩;have G6:=Lib.hid (G5.out.trans' g6);have b4:¬ 9223372036854775807<s5.size+1+2+1+s6.size:=(by omega);clear g6))
 all_goals (
  dsimp only [Exit.then]
  go_wp2_with fail
  go_ret
  exact ⟨_,rfl,by simp only [ByteArray.size_append,s1,s2];omega,GW.out.trans' G6.out⟩)
theorem tI {w:World}{p1:Option Addr}{n1 c1 b o c2 D:Nat}{n x0 x1 y0 y1:Int}{q1 q2 r1 r2:Option Addr}{k1 l1 k2 l2 i1 j1 i2 j2:Nat} (hD:D≤10000000) (hx:OpT D w (.agg #[.int .i64 x0,.int .i64 x1,.slice q1 k1 l1,.slice q2 k2 l2])) (hy:OpT D w (.agg #[.int .i64 y0,.int .i64 y1,.slice r1 i1 j1,.slice r2 i2 j2]))
  (c0:w.cell? ⟨b,o,none⟩=some (.int .i64 x0)) (c1':w.cell? ⟨b,o+1,none⟩=some (.int .i64 x1)) (c2':w.cell? ⟨b,o+2,none⟩=some (.slice q1 k1 l1)) (c3:w.cell? ⟨b,o+3,none⟩=some (.slice q2 k2 l2))
  (d0:w.cell? ⟨b,o+4,none⟩=some (.int .i64 y0)) (d1:w.cell? ⟨b,o+5,none⟩=some (.int .i64 y1)) (d2:w.cell? ⟨b,o+6,none⟩=some (.slice r1 i1 j1)) (d3:w.cell? ⟨b,o+7,none⟩=some (.slice r2 i2 j2)):Calls Tryz.prog 190 #[.agg #[.int .i64 16,.int .i64 n,.slice p1 n1 c1,.slice (some ⟨b,o,none⟩) 2 c2]] w (jW (3*D+9) w):=by
 have HX:=Lib.hid hx
 have HY:=Lib.hid hy
 have s1:(⟨#[32]⟩:ByteArray).size=1:=rfl
 have s2:(⟨#[43]⟩:ByteArray).size=1:=rfl
 obtain ⟨W1,hW1⟩:∃ W1,W1=w.alloc (.cells #[.int .i64 16,.int .i64 n,.slice p1 n1 c1,.slice (some ⟨b,o,none⟩) 2 c2] 152):=⟨_,rfl⟩
 have g1:Grown w W1:=by rw [hW1];exact za _ _
 have R1:zx Tryz.prog W1 (w.heap.size,0,0) 152 [.int .i64 16,.int .i64 n,.slice p1 n1 c1,.slice (some ⟨b,o,none⟩) 2 c2]:=by rw [hW1];exact zn w
 have KS:RowKit.Hid (∀ wx,Grown W1 wx→(wx.cell? ⟨w.heap.size,0,none⟩=some (.int .i64 16)∧wx.cell? ⟨w.heap.size,3,none⟩=some (.slice (some ⟨b,o,none⟩) 2 c2)∧wx.cell? ⟨b,o,none⟩=some (.int .i64 x0)∧wx.cell? ⟨b,o+1,none⟩=some (.int .i64 x1)∧wx.cell? ⟨b,o+2,none⟩=some (.slice q1 k1 l1)∧wx.cell? ⟨b,o+3,none⟩=some (.slice q2 k2 l2)∧wx.cell? ⟨b,o+4,none⟩=some (.int .i64 y0)∧wx.cell? ⟨b,o+5,none⟩=some (.int .i64 y1)∧wx.cell? ⟨b,o+6,none⟩=some (.slice r1 i1 j1)∧wx.cell? ⟨b,o+7,none⟩=some (.slice r2 i2 j2))):=Lib.hid (fun wx g=>⟨RD.ze (qG R1).1.1 g,RD.ze (qG R1).1.2.2.2 g,RD.ze c0 (g1.trans' g),RD.ze c1' (g1.trans' g),RD.ze c2' (g1.trans' g),RD.ze c3 (g1.trans' g),RD.ze d0 (g1.trans' g),RD.ze d1 (g1.trans' g),RD.ze d2 (g1.trans' g),RD.ze d3 (g1.trans' g)⟩)
 have G1:=Lib.hid g1
 clear hx hy g1 R1
 subst hW1
 go_enter Tryz.func190,Tryz.ntmps190
 go_wp2_with fail
 go_quiet (first | (go_at_call 269;exact Calls.quiet_of_same (Zd (m:=6) rfl)))
 go_wp2_with fail
 obtain ⟨WB,hWB⟩:∃ WB,WB=((w.alloc (.cells #[.int .i64 16,.int .i64 n,.slice p1 n1 c1,.slice (some ⟨b,o,none⟩) 2 c2] 152)).alloc (.cells #[.string ⟨#[97,110,100]⟩,.string ⟨#[111,114]⟩,.string ⟨#[45,62]⟩,.string ⟨#[60,61]⟩,.string ⟨#[60]⟩,.string ⟨#[62,61]⟩,.string ⟨#[62]⟩,.string ⟨#[61,61]⟩,.string ⟨#[43]⟩] 9)).drewN nq:=⟨_,rfl⟩
 have gb:Grown (w.alloc (.cells #[.int .i64 16,.int .i64 n,.slice p1 n1 c1,.slice (some ⟨b,o,none⟩) 2 c2] 152)) WB:=by rw [hWB];exact (za _ _).trans' (ql _ nq)
 rw [← hWB]
 have GB:=Lib.hid gb
 have GW:=Lib.hid (G1.out.trans' gb)
 obtain ⟨u0,u3,e0,e1,e2,e3,f0,f1,f2,f3⟩:=KS.out WB gb
 clear gb hWB c0 c1' c2' c3 d0 d1 d2 d3
 go_region_held3 (fun wx=>wx.cell? ⟨w.heap.size,0,none⟩=some (.int .i64 16)∧wx.cell? ⟨w.heap.size,3,none⟩=some (.slice (some ⟨b,o,none⟩) 2 c2)∧wx.cell? ⟨b,o,none⟩=some (.int .i64 x0)∧wx.cell? ⟨b,o+1,none⟩=some (.int .i64 x1)∧wx.cell? ⟨b,o+2,none⟩=some (.slice q1 k1 l1)∧wx.cell? ⟨b,o+3,none⟩=some (.slice q2 k2 l2)∧wx.cell? ⟨b,o+4,none⟩=some (.int .i64 y0)∧wx.cell? ⟨b,o+5,none⟩=some (.int .i64 y1)∧wx.cell? ⟨b,o+6,none⟩=some (.slice r1 i1 j1)∧wx.cell? ⟨b,o+7,none⟩=some (.slice r2 i2 j2))
  (first | exact ⟨u0,u3,e0,e1,e2,e3,f0,f1,f2,f3⟩ | exact KS.out _ (GB.out.trans' (zp _)) | exact KS.out _ (GB.out.trans' G5.out) | exact KS.out _ (GB.out.trans' G6.out))
  (first
   | (go_at_call 268;(with_reducible refine (HX.out _ 6 (GW.out.trans' (zp _))).mono ?_);rintro e w5 ⟨s5,rfl,z5,g5⟩;have G5:=Lib.hid ((zp _).trans' g5);have b1:¬ 9223372036854775807<s5.size+1:=(by omega);have b2:¬ 9223372036854775807<s5.size+1+1:=(by omega);have b3:¬ 9223372036854775807<s5.size+1+1+1:=(by omega);clear g5)
   | (go_at_call 268;(with_reducible refine (HY.out _ 7 (GW.out.trans' (zp _))).mono ?_);rintro e w5 ⟨s5,rfl,z5,g5⟩;have G5:=Lib.hid ((zp _).trans' g5);clear g5)
   | (go_at_call 268;(with_reducible refine (HX.out _ 6 (GW.out.trans' G5.out)).mono ?_);rintro e w6 ⟨s6,rfl,z6,g6⟩;have G6:=Lib.hid (G5.out.trans' g6);have b1:¬ 9223372036854775807<s6.size+1:=(by omega);have b2:¬ 9223372036854775807<s6.size+1+1:=(by omega);have b3:¬ 9223372036854775807<s6.size+1+1+1:=(by omega);have b4:¬ 9223372036854775807<s6.size+1+1+1+s5.size:=(by omega);clear g6)
   | (go_at_call 268;(with_reducible refine (HY.out _ 7 (GW.out.trans' G5.out)).mono ?_);rintro e w6 ⟨s6,rfl,z6,g6⟩;have G6:=Lib.hid (G5.out.trans' g6);have b4:¬ 9223372036854775807<s5.size+1+1+1+s6.size:=(by omega);clear g6))
 all_goals (
  dsimp only [Exit.then]
  go_wp2_with fail
  go_ret
  exact ⟨_,rfl,by simp only [ByteArray.size_append,s1,s2];omega,GW.out.trans' G6.out⟩)
end MK
end
end Go.AEv
