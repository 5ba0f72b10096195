/- Changes, their encodings and texts: calls and runs (L3a). Conditions: those of each theorem. -/
import Derived.Test.YtmlimgmmpjhifaaGreatDoorH2x0
set_option maxHeartbeats 8000000
set_option maxRecDepth 100000
set_option linter.all false
namespace Go.AEv
section
open Go Go.Proofs TR
namespace MK
open Go.AEv.GT (zO qq)
theorem np {w:World}{lo d:Nat}{v:Value} (h:FE lo (d+1) w v):Calls Tryz.prog 264 #[v] w (Zg 100 w):=by
 obtain ⟨op,n,rv,av,rs,ch,rfl,hf,hr,hk,ha,hs⟩:=h
 obtain ⟨p1,c1,rfl,hcap,hc1,_⟩:=ju hr
 obtain ⟨p2,c2,rfl,_,_,_⟩:=ju ha
 have h1:=hf.lo
 have h16:=hf.hi
 by_cases hg:tE op n rs.length
 ·obtain ⟨g1,g2,g3,g4⟩:=hg
  by_cases e1:op=1
  ·subst e1
   exact xP hf.n0 hf.n1 (g4 (by decide) (by decide) (by decide)) hf.args hc1 rfl hcap hk
  ·obtain rfl:n=0:=by rcases g1 with g1 | g1;exact absurd g1 e1;exact g1
   by_cases e4:op=4
   ·subst e4
    exact xO (g2 (.inl rfl)) hf.args hc1 rfl hcap hk
   ·by_cases e6:op=6
    ·subst e6
     exact xM (g2 (.inr rfl)) hf.args hc1 rfl hcap hk
    ·by_cases e5:op=5
     ·subst e5
      exact xN (g3 rfl) hf.few hf.args hc1 rfl hcap hk
     ·exact xL h1 h16 (beq_eq_false_iff_ne.2 e4) (beq_eq_false_iff_ne.2 e6) (beq_eq_false_iff_ne.2 e5) e1 (g4 e4 e5 e6) hf.args hc1 rfl hcap hk
 ·exact nk hg hf.few h1 h16 hf.args
theorem dV {d : Nat} (ih : ∀ {w : World} {lo : Nat} {v : Value}, FE lo d w v → Calls Tryz.prog 186 #[v] w (Zg 100 w)) {w : World} {lo : Nat} {v : Value} (h : FE lo (d + 1) w v) : Calls Tryz.prog 186 #[v] w (Zg 100 w) := by
  have HF := Lib.hid h
  obtain ⟨op, n, rv, av, rs, ch, rfl, hf, hr, hk, ha, hs⟩ := h
  obtain ⟨p1, c1, rfl, _, hc1, _⟩ := ju hr
  obtain ⟨p2, c2, rfl, _, hc2, _⟩ := ju ha
  have C2 := Lib.hid hc2
  have HSB := Lib.hid hs
  have few2 : ch.length ≤ 2 := by rw [hf.args]; unfold yi; split; · decide
                                  split <;> decide
  clear hr ha hc1 hc2 hk hf hs
  go_enter Tryz.func186, Tryz.ntmps186
  go_wp2_with (first
    | (go_at_call 264; (with_reducible refine (np (HF.out.qA (d + 1) (zU (za _ _)))).mono ?_); rintro e w2 ⟨q, rfl, hq, g2⟩; have G2 := Lib.hid ((za w _).trans' g2); have R2 := Lib.hid (zk g2 (zn w (z := #[.int .i64 op, .int .i64 n, .slice p1 rs.length c1, .slice p2 ch.length c2]) (t := 152))); obtain ⟨⟨x0, _, _, x3⟩, _⟩ := qG R2.out; clear g2))
  · go_ret
    exact ⟨q, rfl, hq, G2.out⟩
  · obtain rfl : q = 0 := by first | omega | (simp at *; omega)
    go_loopg [14] ch.length (fun g i wx => Grown w wx ∧ ∃ j : Nat, j + g = ch.length ∧ i = .int .i64 j)
    case atStart => exact ⟨G2.out, 0, by omega, rfl⟩
    case round =>
      obtain ⟨hg, j, hj, rfl⟩ := hrel
      have HG := Lib.hid hg
      clear hg
      cases gk with
      | succ g =>
        have hjlt : (j : Int) < ch.length := by omega
        have hjn : j < ch.length := by omega
        obtain ⟨b2, o2, z0, z1, k1, l1, m1, k2, l2, m2, rfl, x0, x1, x2, x3, hft⟩ := QH (C2.out.grown HG.out) HSB.out hjn
        have FTX := Lib.hid hft
        clear hft
        go_wp2_with (first
          | (go_at_call 186; (with_reducible refine (ih (FTX.out.qA d (zU (HG.out.trans' (za _ _))))).mono ?_); rintro e w5 ⟨q, rfl, hq, g5⟩; have G5 := Lib.hid ((HG.out.trans' (za _ _)).trans' g5); clear g5))
        all_goals first
          | (go_ret; exact ⟨q, rfl, hq, G5.out⟩)
          | (go_roundg g
             case measure => omega
             case rel => exact ⟨G5.out, j + 1, by omega, rfl⟩)
      | zero =>
        have hjlt : ¬ ((j : Int) < ch.length) := by omega
        go_wp2_with fail
        go_ret
        exact ⟨0, rfl, by decide, HG.out⟩
theorem WM:∀ (d:Nat) {w:World}{lo:Nat}{v:Value},FE lo d w v→Calls Tryz.prog 186 #[v] w (Zg 100 w)
 | 0,_,_,_,h=>h.elim
 | d+1,_,_,_,h=>dV (fun h'=>WM d h') h
theorem WU {w:World}{lo d:Nat}{v:Value} (hd:d≤10) (h:FE lo d w v):Calls Tryz.prog 122 #[v] w (Zg 100 w):=by
 obtain ⟨op,n,p1,n1,c1,p2,n2,c2,rfl⟩:=h.form
 have HF:=Lib.hid (h.qA d (zU (za w (.cells #[.int .i64 op,.int .i64 n,.slice p1 n1 c1,.slice p2 n2 c2] 152))))
 have R0:=Lib.hid (zn w (z:=#[.int .i64 op,.int .i64 n,.slice p1 n1 c1,.slice p2 n2 c2]) (t:=152))
 clear h
 go_enter Tryz.func122,Tryz.ntmps122
 go_wp2_with (first
  | (go_at_call 184;(with_reducible refine (KE d (by omega) HF.out).mono ?_);rintro e w2 ⟨q,rfl,hq,g2⟩;have hq10:¬ (10:Int)<q:=(by omega);have G2:=Lib.hid ((za w _).trans' g2);have R2:=Lib.hid (zk g2 R0.out);have F2:=Lib.hid (HF.out.qA d (zU g2));obtain ⟨⟨x0,x1,x2,x3⟩,_⟩:=qG R2.out;clear g2)
  | (go_at_call 185;(with_reducible refine (UH d hd F2.out).mono ?_);rintro e w3 ⟨q3,rfl,hq3,g3⟩;have G3:=Lib.hid (G2.out.trans' g3);have R3:=Lib.hid (zk g3 R2.out);have F3:=Lib.hid (F2.out.qA d (zU g3));clear x0 x1 x2 x3 g3;obtain ⟨⟨x0,x1,x2,x3⟩,_⟩:=qG R3.out)
  | (go_at_call 186;(with_reducible refine (WM d F3.out).mono ?_);rintro e w4 ⟨q4,rfl,hq4,g4⟩;have G4:=Lib.hid (G3.out.trans' g4);clear g4))
 all_goals first
  | (go_ret;exact ⟨q4,rfl,hq4,G4.out⟩)
  | (go_ret;exact ⟨3,rfl,by decide,G3.out⟩)
end MK
end
section
open Go Go.Proofs TR
namespace MK
open Go.AEv.GT (zO qq)
def jW (m:Nat) (w:World) (e:Ending) (w2:World):Prop:=∃ s:ByteArray,e = .returned (.string s)∧s.size≤m∧Grown w w2
theorem DC (w:World) {n:Int} (h0:0≤n) (h9:n≤9):(convert 22 9 (.slice (some ⟨w.heap.size,0,none⟩) 1 1)).run Tryz.prog (w.alloc (.cells #[.int .u8 (48+n)] 5)) = .ok (.string ⟨#[UInt8.ofNat (48+n).toNat]⟩) (w.alloc (.cells #[.int .u8 (48+n)] 5)):=by
 refine RD.eo (M:=[(48+n).toNat]) 1 ⟨fun b m=>by rw [List.mem_singleton.1 m];omega,fun _=>⟨_,_,rfl,fun i x hi=>?_⟩⟩ rfl
 have hu:(#[Value.int .u8 (48+n)]:Array Value).toList[i]? = some (.int .u8 (x:Nat)):=by
  cases i with
  | zero=>
   simp at hi
   subst hi
   show some (Value.int .u8 (48+n))=_
   congr 2
   omega
  | succ i=>simp at hi
 exact TR.cell_of_row (zn w (z:=#[.int .u8 (48+n)]) (t:=5)) hu
theorem gI {w:World}{n:Int} (h0:0≤n) (h9:n≤9):Calls Tryz.prog 266 #[.int .i64 n] w (jW 1 w):=by
 have hr:n % 10=n:=by omega
 have hq:n / 10=0:=by omega
 go_enter Tryz.func266,Tryz.ntmps266
 go_wp2
 go_loopg [0,3] 1 (fun g v s wx=>Grown w wx∧g≤1∧(g=1→v = .int .i64 n∧s = .string ⟨#[]⟩)∧(g=0→v = .int .i64 0∧∃ x:UInt8,s = .string ⟨#[x]⟩))
 case atStart=>exact ⟨RD.zL _,by decide,fun _=>⟨rfl,rfl⟩,fun h=>by omega⟩
 case round=>
  obtain ⟨hg,hle,h1,h2⟩:=hrel
  have HG:=Lib.hid hg
  clear hg
  cases gk with
  | succ g=>
   obtain rfl:g=0:=by omega
   obtain ⟨rfl,rfl⟩:=h1 rfl
   have hcv:=DC wr h0 h9
   clear h1 h2
   go_wp2
   go_roundg 0
   case measure=>omega
   case rel=>exact ⟨HG.out.trans' (za _ _),by decide,fun h=>absurd h (by decide),fun _=>⟨by rw [hq],_,rfl⟩⟩
  | zero=>
   obtain ⟨rfl,x,rfl⟩:=h2 rfl
   have hne:¬ ((⟨#[x]⟩:ByteArray)=⟨#[]⟩):=by intro e;cases e
   clear h1 h2
   go_wp2
   go_ret
   exact ⟨_,rfl,Nat.le_refl 1,HG.out⟩
theorem dP {w:World}{p:Option Addr}{n c:Nat}{us:List Value} (h:Cs w p us) (hn:us.length=n) (hu:∀ u∈us,Vd u) (few:n≤4):Calls Tryz.prog 267 #[.slice p n c] w (jW (14*n) w):=by
 have H:=Lib.hid h
 have HU:=Lib.hid hu
 clear h hu
 go_enter Tryz.func267,Tryz.ntmps267
 go_wp2
 go_loopg [3,8] n (fun g s i wx=>wx=w∧∃ (j:Nat) (t:ByteArray),j+g=n∧i = .int .i64 j∧s = .string t∧t.size≤14*j)
 case atStart=>exact ⟨rfl,0,⟨#[]⟩,by omega,rfl,rfl,Nat.le_refl 0⟩
 case round=>
  obtain ⟨rfl,j,t,hj,rfl,rfl,ht⟩:=hrel
  have ht1:t.size≤56:=by omega
  cases gk with
  | succ g=>
   have hjn:(j:Int)<n:=by omega
   have hjl:j<us.length:=by omega
   obtain ⟨x,hx,hx12⟩:=HU.out _ (List.getElem_mem hjl)
   obtain ⟨b,o,rfl,hc⟩:=H.out (fun e=>by rw [e]at hjl;cases hjl)
   have hcell:=hc j _ (List.getElem?_eq_getElem hjl)
   rw [hx]at hcell
   have h2:(⟨#[44,32]⟩:ByteArray).size=2:=rfl
   clear hc hx
   go_wp2
   ·go_roundg g
    case measure=>omega
    case rel=>exact ⟨rfl,j+1,_,by omega,rfl,rfl,by rw [ByteArray.size_append,ByteArray.size_append];omega⟩
   ·go_roundg g
    case measure=>omega
    case rel=>exact ⟨rfl,j+1,_,by omega,rfl,rfl,by rw [ByteArray.size_append];omega⟩
  | zero=>
   have hjn:¬ (j:Int)<n:=by omega
   go_wp2
   go_ret
   exact ⟨t,rfl,by omega,RD.zL _⟩
def s8 (op:Int):Nat:=if op=10 then 1 else if op=9 then 2 else if op=8 then 3 else if op=7 then 4 else if 11≤op∧op≤15 then 5 else if op=16 then 6 else 7
theorem KP {w:World}{op:Int}:Calls Tryz.prog 269 #[.int .i64 op] w (fun e w2=>e = .returned (.int .i64 (s8 op))∧w2=w):=by
 go_enter Tryz.func269,Tryz.ntmps269
 go_wp2
 all_goals (
  go_ret
  refine ⟨?_,rfl⟩
  unfold s8
  congr 2
  simp_all
  try first
   | omega
   | (split<;>first | rfl | omega))
end MK
end
section
open Go Go.Proofs TR
namespace MK
open Go.AEv.GT (zO qq)
attribute [local go_sem ↓] Go.wp_at_zero Go.wp_at_succ
theorem zp (w:World):Grown w w.drew:=⟨fun _ _=>rfl,Nat.le_refl _,rfl,rfl,rfl⟩
abbrev OpT (D:Nat) (w:World) (v:Value):Prop:=∀ (wx:World) (l:Int),Grown w wx→Calls Tryz.prog 268 #[v,.int .i64 l] wx (jW (D+2) wx)
theorem Zd {w:World}{op:Int}{m:Nat} (h:s8 op=m):Calls Tryz.prog 269 #[.int .i64 op] w (fun e w2=>e = .returned (.int .i64 m)∧w2=w):=by
 subst h
 exact KP
theorem wL {w:World}{p1:Option Addr}{n1 c1 b o c2 D:Nat}{n x0 x1 y0 y1:Int}{q1 q2 r1 r2:Option Addr}{k1 l1 k2 l2 i1 j1 i2 j2:Nat} (hD:D≤10000000) (hx:OpT D w (.agg #[.int .i64 x0,.int .i64 x1,.slice q1 k1 l1,.slice q2 k2 l2])) (hy:OpT D w (.agg #[.int .i64 y0,.int .i64 y1,.slice r1 i1 j1,.slice r2 i2 j2]))
  (c0:w.cell? ⟨b,o,none⟩=some (.int .i64 x0)) (c1':w.cell? ⟨b,o+1,none⟩=some (.int .i64 x1)) (c2':w.cell? ⟨b,o+2,none⟩=some (.slice q1 k1 l1)) (c3:w.cell? ⟨b,o+3,none⟩=some (.slice q2 k2 l2))
  (d0:w.cell? ⟨b,o+4,none⟩=some (.int .i64 y0)) (d1:w.cell? ⟨b,o+5,none⟩=some (.int .i64 y1)) (d2:w.cell? ⟨b,o+6,none⟩=some (.slice r1 i1 j1)) (d3:w.cell? ⟨b,o+7,none⟩=some (.slice r2 i2 j2)):Calls Tryz.prog 190 #[.agg #[.int .i64 8,.int .i64 n,.slice p1 n1 c1,.slice (some ⟨b,o,none⟩) 2 c2]] w (jW (3*D+9) w):=by
 have HX:=Lib.hid hx
 have HY:=Lib.hid hy
 have s1:(⟨#[32]⟩:ByteArray).size=1:=rfl
 have s2:(⟨#[97,110,100]⟩:ByteArray).size=3:=rfl
 obtain ⟨W1,hW1⟩:∃ W1,W1=w.alloc (.cells #[.int .i64 8,.int .i64 n,.slice p1 n1 c1,.slice (some ⟨b,o,none⟩) 2 c2] 152):=⟨_,rfl⟩
 have g1:Grown w W1:=by rw [hW1];exact za _ _
 have R1:zx Tryz.prog W1 (w.heap.size,0,0) 152 [.int .i64 8,.int .i64 n,.slice p1 n1 c1,.slice (some ⟨b,o,none⟩) 2 c2]:=by rw [hW1];exact zn w
 have KS:RowKit.Hid (∀ wx,Grown W1 wx→(wx.cell? ⟨w.heap.size,0,none⟩=some (.int .i64 8)∧wx.cell? ⟨w.heap.size,3,none⟩=some (.slice (some ⟨b,o,none⟩) 2 c2)∧wx.cell? ⟨b,o,none⟩=some (.int .i64 x0)∧wx.cell? ⟨b,o+1,none⟩=some (.int .i64 x1)∧wx.cell? ⟨b,o+2,none⟩=some (.slice q1 k1 l1)∧wx.cell? ⟨b,o+3,none⟩=some (.slice q2 k2 l2)∧wx.cell? ⟨b,o+4,none⟩=some (.int .i64 y0)∧wx.cell? ⟨b,o+5,none⟩=some (.int .i64 y1)∧wx.cell? ⟨b,o+6,none⟩=some (.slice r1 i1 j1)∧wx.cell? ⟨b,o+7,none⟩=some (.slice r2 i2 j2))):=Lib.hid (fun wx g=>⟨RD.ze (qG R1).1.1 g,RD.ze (qG R1).1.2.2.2 g,RD.ze c0 (g1.trans' g),RD.ze c1' (g1.trans' g),RD.ze c2' (g1.trans' g),RD.ze c3 (g1.trans' g),RD.ze d0 (g1.trans' g),RD.ze d1 (g1.trans' g),RD.ze d2 (g1.trans' g),RD.ze d3 (g1.trans' g)⟩)
 have G1:=Lib.hid g1
 clear hx hy g1 R1
 subst hW1
 go_enter Tryz.func190,Tryz.ntmps190
 go_wp2_with fail
 go_quiet (first | (go_at_call 269;exact Calls.quiet_of_same (Zd (m:=3) rfl)))
 go_wp2_with fail
 obtain ⟨WB,hWB⟩:∃ WB,WB=((w.alloc (.cells #[.int .i64 8,.int .i64 n,.slice p1 n1 c1,.slice (some ⟨b,o,none⟩) 2 c2] 152)).alloc (.cells #[.string ⟨#[97,110,100]⟩,.string ⟨#[111,114]⟩,.string ⟨#[45,62]⟩,.string ⟨#[60,61]⟩,.string ⟨#[60]⟩,.string ⟨#[62,61]⟩,.string ⟨#[62]⟩,.string ⟨#[61,61]⟩,.string ⟨#[43]⟩] 9)).drewN nq:=⟨_,rfl⟩
 have gb:Grown (w.alloc (.cells #[.int .i64 8,.int .i64 n,.slice p1 n1 c1,.slice (some ⟨b,o,none⟩) 2 c2] 152)) WB:=by rw [hWB];exact (za _ _).trans' (ql _ nq)
 rw [← hWB]
 have GB:=Lib.hid gb
 have GW:=Lib.hid (G1.out.trans' gb)
 obtain ⟨u0,u3,e0,e1,e2,e3,f0,f1,f2,f3⟩:=KS.out WB gb
 clear gb hWB c0 c1' c2' c3 d0 d1 d2 d3
 go_region_held3 (fun wx=>wx.cell? ⟨w.heap.size,0,none⟩=some (.int .i64 8)∧wx.cell? ⟨w.heap.size,3,none⟩=some (.slice (some ⟨b,o,none⟩) 2 c2)∧wx.cell? ⟨b,o,none⟩=some (.int .i64 x0)∧wx.cell? ⟨b,o+1,none⟩=some (.int .i64 x1)∧wx.cell? ⟨b,o+2,none⟩=some (.slice q1 k1 l1)∧wx.cell? ⟨b,o+3,none⟩=some (.slice q2 k2 l2)∧wx.cell? ⟨b,o+4,none⟩=some (.int .i64 y0)∧wx.cell? ⟨b,o+5,none⟩=some (.int .i64 y1)∧wx.cell? ⟨b,o+6,none⟩=some (.slice r1 i1 j1)∧wx.cell? ⟨b,o+7,none⟩=some (.slice r2 i2 j2))
  (first | exact ⟨u0,u3,e0,e1,e2,e3,f0,f1,f2,f3⟩ | exact KS.out _ (GB.out.trans' (zp _)) | exact KS.out _ (GB.out.trans' G5.out) | exact KS.out _ (GB.out.trans' G6.out))
  (first
   | (go_at_call 268;(with_reducible refine (HX.out _ 3 (GW.out.trans' (zp _))).mono ?_);rintro e w5 ⟨s5,rfl,z5,g5⟩;have G5:=Lib.hid ((zp _).trans' g5);have b1:¬ 9223372036854775807<s5.size+1:=(by omega);have b2:¬ 9223372036854775807<s5.size+1+3:=(by omega);have b3:¬ 9223372036854775807<s5.size+1+3+1:=(by omega);clear g5)
   | (go_at_call 268;(with_reducible refine (HY.out _ 4 (GW.out.trans' (zp _))).mono ?_);rintro e w5 ⟨s5,rfl,z5,g5⟩;have G5:=Lib.hid ((zp _).trans' g5);clear g5)
   | (go_at_call 268;(with_reducible refine (HX.out _ 3 (GW.out.trans' G5.out)).mono ?_);rintro e w6 ⟨s6,rfl,z6,g6⟩;have G6:=Lib.hid (G5.out.trans' g6);have b1:¬ 9223372036854775807<s6.size+1:=(by omega);have b2:¬ 9223372036854775807<s6.size+1+3:=(by omega);have b3:¬ 9223372036854775807<s6.size+1+3+1:=(by omega);have b4:¬ 9223372036854775807<s6.size+1+3+1+s5.size:=(by omega);clear g6)
   | (go_at_call 268;(with_reducible refine (HY.out _ 4 (GW.out.trans' G5.out)).mono ?_);rintro e w6 ⟨s6,rfl,z6,g6⟩;have G6:=Lib.hid (G5.out.trans' g6);have b4:¬ 9223372036854775807<s5.size+1+3+1+s6.size:=(by omega);clear g6))
 all_goals (
  dsimp only [Exit.then]
  go_wp2_with fail
  go_ret
  exact ⟨_,rfl,by simp only [ByteArray.size_append,s1,s2];omega,GW.out.trans' G6.out⟩)
theorem wK {w:World}{p1:Option Addr}{n1 c1 b o c2 D:Nat}{n x0 x1 y0 y1:Int}{q1 q2 r1 r2:Option Addr}{k1 l1 k2 l2 i1 j1 i2 j2:Nat} (hD:D≤10000000) (hx:OpT D w (.agg #[.int .i64 x0,.int .i64 x1,.slice q1 k1 l1,.slice q2 k2 l2])) (hy:OpT D w (.agg #[.int .i64 y0,.int .i64 y1,.slice r1 i1 j1,.slice r2 i2 j2]))
  (c0:w.cell? ⟨b,o,none⟩=some (.int .i64 x0)) (c1':w.cell? ⟨b,o+1,none⟩=some (.int .i64 x1)) (c2':w.cell? ⟨b,o+2,none⟩=some (.slice q1 k1 l1)) (c3:w.cell? ⟨b,o+3,none⟩=some (.slice q2 k2 l2))
  (d0:w.cell? ⟨b,o+4,none⟩=some (.int .i64 y0)) (d1:w.cell? ⟨b,o+5,none⟩=some (.int .i64 y1)) (d2:w.cell? ⟨b,o+6,none⟩=some (.slice r1 i1 j1)) (d3:w.cell? ⟨b,o+7,none⟩=some (.slice r2 i2 j2)):Calls Tryz.prog 190 #[.agg #[.int .i64 9,.int .i64 n,.slice p1 n1 c1,.slice (some ⟨b,o,none⟩) 2 c2]] w (jW (3*D+9) w):=by
 have HX:=Lib.hid hx
 have HY:=Lib.hid hy
 have s1:(⟨#[32]⟩:ByteArray).size=1:=rfl
 have s2:(⟨#[111,114]⟩:ByteArray).size=2:=rfl
 obtain ⟨W1,hW1⟩:∃ W1,W1=w.alloc (.cells #[.int .i64 9,.int .i64 n,.slice p1 n1 c1,.slice (some ⟨b,o,none⟩) 2 c2] 152):=⟨_,rfl⟩
 have g1:Grown w W1:=by rw [hW1];exact za _ _
 have R1:zx Tryz.prog W1 (w.heap.size,0,0) 152 [.int .i64 9,.int .i64 n,.slice p1 n1 c1,.slice (some ⟨b,o,none⟩) 2 c2]:=by rw [hW1];exact zn w
 have KS:RowKit.Hid (∀ wx,Grown W1 wx→(wx.cell? ⟨w.heap.size,0,none⟩=some (.int .i64 9)∧wx.cell? ⟨w.heap.size,3,none⟩=some (.slice (some ⟨b,o,none⟩) 2 c2)∧wx.cell? ⟨b,o,none⟩=some (.int .i64 x0)∧wx.cell? ⟨b,o+1,none⟩=some (.int .i64 x1)∧wx.cell? ⟨b,o+2,none⟩=some (.slice q1 k1 l1)∧wx.cell? ⟨b,o+3,none⟩=some (.slice q2 k2 l2)∧wx.cell? ⟨b,o+4,none⟩=some (.int .i64 y0)∧wx.cell? ⟨b,o+5,none⟩=some (.int .i64 y1)∧wx.cell? ⟨b,o+6,none⟩=some (.slice r1 i1 j1)∧wx.cell? ⟨b,o+7,none⟩=some (.slice r2 i2 j2))):=Lib.hid (fun wx g=>⟨RD.ze (qG R1).1.1 g,RD.ze (qG R1).1.2.2.2 g,RD.ze c0 (g1.trans' g),RD.ze c1' (g1.trans' g),RD.ze c2' (g1.trans' g),RD.ze c3 (g1.trans' g),RD.ze d0 (g1.trans' g),RD.ze d1 (g1.trans' g),RD.ze d2 (g1.trans' g),RD.ze d3 (g1.trans' g)⟩)
 have G1:=Lib.hid g1
 clear hx hy g1 R1
 subst hW1
 go_enter Tryz.func190,Tryz.ntmps190
 go_wp2_with fail
 go_quiet (first | (go_at_call 269;exact Calls.quiet_of_same (Zd (m:=2) rfl)))
 go_wp2_with fail
 obtain ⟨WB,hWB⟩:∃ WB,WB=((w.alloc (.cells #[.int .i64 9,.int .i64 n,.slice p1 n1 c1,.slice (some ⟨b,o,none⟩) 2 c2] 152)).alloc (.cells #[.string ⟨#[97,110,100]⟩,.string ⟨#[111,114]⟩,.string ⟨#[45,62]⟩,.string ⟨#[60,61]⟩,.string ⟨#[60]⟩,.string ⟨#[62,61]⟩,.string ⟨#[62]⟩,.string ⟨#[61,61]⟩,.string ⟨#[43]⟩] 9)).drewN nq:=⟨_,rfl⟩
 have gb:Grown (w.alloc (.cells #[.int .i64 9,.int .i64 n,.slice p1 n1 c1,.slice (some ⟨b,o,none⟩) 2 c2] 152)) WB:=by rw [hWB];exact (za _ _).trans' (ql _ nq)
 rw [← hWB]
 have GB:=Lib.hid gb
 have GW:=Lib.hid (G1.out.trans' gb)
 obtain ⟨u0,u3,e0,e1,e2,e3,f0,f1,f2,f3⟩:=KS.out WB gb
 clear gb hWB c0 c1' c2' c3 d0 d1 d2 d3
 go_region_held3 (fun wx=>wx.cell? ⟨w.heap.size,0,none⟩=some (.int .i64 9)∧wx.cell? ⟨w.heap.size,3,none⟩=some (.slice (some ⟨b,o,none⟩) 2 c2)∧wx.cell? ⟨b,o,none⟩=some (.int .i64 x0)∧wx.cell? ⟨b,o+1,none⟩=some (.int .i64 x1)∧wx.cell? ⟨b,o+2,none⟩=some (.slice q1 k1 l1)∧wx.cell? ⟨b,o+3,none⟩=some (.slice q2 k2 l2)∧wx.cell? ⟨b,o+4,none⟩=some (.int .i64 y0)∧wx.cell? ⟨b,o+5,none⟩=some (.int .i64 y1)∧wx.cell? ⟨b,o+6,none⟩=some (.slice r1 i1 j1)∧wx.cell? ⟨b,o+7,none⟩=some (.slice r2 i2 j2))
  (first | exact ⟨u0,u3,e0,e1,e2,e3,f0,f1,f2,f3⟩ | exact KS.out _ (GB.out.trans' (zp _)) | exact KS.out _ (GB.out.trans' G5.out) | exact KS.out _ (GB.out.trans' G6.out))
  (first
   | (go_at_call 268;(with_reducible refine (HX.out _ 2 (GW.out.trans' (zp _))).mono ?_);rintro e w5 ⟨s5,rfl,z5,g5⟩;have G5:=Lib.hid ((zp _).trans' g5);have b1:¬ 9223372036854775807<s5.size+1:=(by omega);have b2:¬ 9223372036854775807<s5.size+1+2:=(by omega);have b3:¬ 9223372036854775807<s5.size+1+2+1:=(by omega);clear g5)
   | (go_at_call 268;(with_reducible refine (HY.out _ 3 (GW.out.trans' (zp _))).mono ?_);rintro e w5 ⟨s5,rfl,z5,g5⟩;have G5:=Lib.hid ((zp _).trans' g5);clear g5)
   | (go_at_call 268;(with_reducible refine (HX.out _ 2 (GW.out.trans' G5.out)).mono ?_);rintro e w6 ⟨s6,rfl,z6,g6⟩;have G6:=Lib.hid (G5.out.trans' g6);have b1:¬ 9223372036854775807<s6.size+1:=(by omega);have b2:¬ 9223372036854775807<s6.size+1+2:=(by omega);have b3:¬ 9223372036854775807<s6.size+1+2+1:=(by omega);have b4:¬ 9223372036854775807<s6.size+1+2+1+s5.size:=(by omega);clear g6)
   | (go_at_call 268;(with_reducible refine (HY.out _ 3 (GW.out.trans' G5.out)).mono ?_);rintro e w6 ⟨s6,rfl,z6,g6⟩;have G6:=Lib.hid (G5.out.trans' g6);have b4:¬ 9223372036854775807<s5.size+1+2+1+s6.size:=(by omega);clear g6))
 all_goals (
  dsimp only [Exit.then]
  go_wp2_with fail
  go_ret
  exact ⟨_,rfl,by simp only [ByteArray.size_append,s1,s2];omega,GW.out.trans' G6.out⟩)
theorem tO {w:World}{p1:Option Addr}{n1 c1 b o c2 D:Nat}{n x0 x1 y0 y1:Int}{q1 q2 r1 r2:Option Addr}{k1 l1 k2 l2 i1 j1 i2 j2:Nat} (hD:D≤10000000) (hx:OpT D w (.agg #[.int .i64 x0,.int .i64 x1,.slice q1 k1 l1,.slice q2 k2 l2])) (hy:OpT D w (.agg #[.int .i64 y0,.int .i64 y1,.slice r1 i1 j1,.slice r2 i2 j2]))
  (c0:w.cell? ⟨b,o,none⟩=some (.int .i64 x0)) (c1':w.cell? ⟨b,o+1,none⟩=some (.int .i64 x1)) (c2':w.cell? ⟨b,o+2,none⟩=some (.slice q1 k1 l1)) (c3:w.cell? ⟨b,o+3,none⟩=some (.slice q2 k2 l2))
  (d0:w.cell? ⟨b,o+4,none⟩=some (.int .i64 y0)) (d1:w.cell? ⟨b,o+5,none⟩=some (.int .i64 y1)) (d2:w.cell? ⟨b,o+6,none⟩=some (.slice r1 i1 j1)) (d3:w.cell? ⟨b,o+7,none⟩=some (.slice r2 i2 j2)):Calls Tryz.prog 190 #[.agg #[.int .i64 10,.int .i64 n,.slice p1 n1 c1,.slice (some ⟨b,o,none⟩) 2 c2]] w (jW (3*D+9) w):=by
 have HX:=Lib.hid hx
 have HY:=Lib.hid hy
 have s1:(⟨#[32]⟩:ByteArray).size=1:=rfl
 have s2:(⟨#[45,62]⟩:ByteArray).size=2:=rfl
 obtain ⟨W1,hW1⟩:∃ W1,W1=w.alloc (.cells #[.int .i64 10,.int .i64 n,.slice p1 n1 c1,.slice (some ⟨b,o,none⟩) 2 c2] 152):=⟨_,rfl⟩
 have g1:Grown w W1:=by rw [hW1];exact za _ _
 have R1:zx Tryz.prog W1 (w.heap.size,0,0) 152 [.int .i64 10,.int .i64 n,.slice p1 n1 c1,.slice (some ⟨b,o,none⟩) 2 c2]:=by rw [hW1];exact zn w
 have KS:RowKit.Hid (∀ wx,Grown W1 wx→(wx.cell? ⟨w.heap.size,0,none⟩=some (.int .i64 10)∧wx.cell? ⟨w.heap.size,3,none⟩=some (.slice (some ⟨b,o,none⟩) 2 c2)∧wx.cell? ⟨b,o,none⟩=some (.int .i64 x0)∧wx.cell? ⟨b,o+1,none⟩=some (.int .i64 x1)∧wx.cell? ⟨b,o+2,none⟩=some (.slice q1 k1 l1)∧wx.cell? ⟨b,o+3,none⟩=some (.slice q2 k2 l2)∧wx.cell? ⟨b,o+4,none⟩=some (.int .i64 y0)∧wx.cell? ⟨b,o+5,none⟩=some (.int .i64 y1)∧wx.cell? ⟨b,o+6,none⟩=some (.slice r1 i1 j1)∧wx.cell? ⟨b,o+7,none⟩=some (.slice r2 i2 j2))):=Lib.hid (fun wx g=>⟨RD.ze (qG R1).1.1 g,RD.ze (qG R1).1.2.2.2 g,RD.ze c0 (g1.trans' g),RD.ze c1' (g1.trans' g),RD.ze c2' (g1.trans' g),RD.ze c3 (g1.trans' g),RD.ze d0 (g1.trans' g),RD.ze d1 (g1.trans' g),RD.ze d2 (g1.trans' g),RD.ze d3 (g1.trans' g)⟩)
 have G1:=Lib.hid g1
 clear hx hy g1 R1
 subst hW1
 go_enter Tryz.func190,Tryz.ntmps190
 go_wp2_with fail
 go_quiet (first | (go_at_call 269;exact Calls.quiet_of_same (Zd (m:=1) rfl)))
 go_wp2_with fail
 obtain ⟨WB,hWB⟩:∃ WB,WB=((w.alloc (.cells #[.int .i64 10,.int .i64 n,.slice p1 n1 c1,.slice (some ⟨b,o,none⟩) 2 c2] 152)).alloc (.cells #[.string ⟨#[97,110,100]⟩,.string ⟨#[111,114]⟩,.string ⟨#[45,62]⟩,.string ⟨#[60,61]⟩,.string ⟨#[60]⟩,.string ⟨#[62,61]⟩,.string ⟨#[62]⟩,.string ⟨#[61,61]⟩,.string ⟨#[43]⟩] 9)).drewN nq:=⟨_,rfl⟩
 have gb:Grown (w.alloc (.cells #[.int .i64 10,.int .i64 n,.slice p1 n1 c1,.slice (some ⟨b,o,none⟩) 2 c2] 152)) WB:=by rw [hWB];exact (za _ _).trans' (ql _ nq)
 rw [← hWB]
 have GB:=Lib.hid gb
 have GW:=Lib.hid (G1.out.trans' gb)
 obtain ⟨u0,u3,e0,e1,e2,e3,f0,f1,f2,f3⟩:=KS.out WB gb
 clear gb hWB c0 c1' c2' c3 d0 d1 d2 d3
 go_region_held3 (fun wx=>wx.cell? ⟨w.heap.size,0,none⟩=some (.int .i64 10)∧wx.cell? ⟨w.heap.size,3,none⟩=some (.slice (some ⟨b,o,none⟩) 2 c2)∧wx.cell? ⟨b,o,none⟩=some (.int .i64 x0)∧wx.cell? ⟨b,o+1,none⟩=some (.int .i64 x1)∧wx.cell? ⟨b,o+2,none⟩=some (.slice q1 k1 l1)∧wx.cell? ⟨b,o+3,none⟩=some (.slice q2 k2 l2)∧wx.cell? ⟨b,o+4,none⟩=some (.int .i64 y0)∧wx.cell? ⟨b,o+5,none⟩=some (.int .i64 y1)∧wx.cell? ⟨b,o+6,none⟩=some (.slice r1 i1 j1)∧wx.cell? ⟨b,o+7,none⟩=some (.slice r2 i2 j2))
  (first | exact ⟨u0,u3,e0,e1,e2,e3,f0,f1,f2,f3⟩ | exact KS.out _ (GB.out.trans' (zp _)) | exact KS.out _ (GB.out.trans' G5.out) | exact KS.out _ (GB.out.trans' G6.out))
  (first
   | (go_at_call 268;(with_reducible refine (HX.out _ 2 (GW.out.trans' (zp _))).mono ?_);rintro e w5 ⟨s5,rfl,z5,g5⟩;have G5:=Lib.hid ((zp _).trans' g5);have b1:¬ 9223372036854775807<s5.size+1:=(by omega);have b2:¬ 9223372036854775807<s5.size+1+2:=(by omega);have b3:¬ 9223372036854775807<s5.size+1+2+1:=(by omega);clear g5)
   | (go_at_call 268;(with_reducible refine (HY.out _ 1 (GW.out.trans' (zp _))).mono ?_);rintro e w5 ⟨s5,rfl,z5,g5⟩;have G5:=Lib.hid ((zp _).trans' g5);clear g5)
   | (go_at_call 268;(with_reducible refine (HX.out _ 2 (GW.out.trans' G5.out)).mono ?_);rintro e w6 ⟨s6,rfl,z6,g6⟩;have G6:=Lib.hid (G5.out.trans' g6);have b1:¬ 9223372036854775807<s6.size+1:=(by omega);have b2:¬ 9223372036854775807<s6.size+1+2:=(by omega);have b3:¬ 9223372036854775807<s6.size+1+2+1:=(by omega);have b4:¬ 9223372036854775807<s6.size+1+2+1+s5.size:=(by omega);clear g6)
   | (go_at_call 268;(with_reducible refine (HY.out _ 1 (GW.out.trans' G5.out)).mono ?_);rintro e w6 ⟨s6,rfl,z6,g6⟩;have G6:=Lib.hid (G5.out.trans' g6);have b4:¬ 9223372036854775807<s5.size+1+2+1+s6.size:=(by omega);clear g6))
 all_goals (
  dsimp only [Exit.then]
  go_wp2_with fail
  go_ret
  exact ⟨_,rfl,by simp only [ByteArray.size_append,s1,s2];omega,GW.out.trans' G6.out⟩)
end MK
end
section
open Go Go.Proofs TR
namespace MK
open Go.AEv.GT (zO qq)
theorem wT {w:World}{p1 p2:Option Addr}{n1 c1 n2 c2:Nat}{n:Int} (h0:0≤n) (h3:n≤3):Calls Tryz.prog 190 #[.agg #[.int .i64 1,.int .i64 n,.slice p1 n1 c1,.slice p2 n2 c2]] w (jW 1 w):=by
 go_enter Tryz.func190,Tryz.ntmps190
 go_wp2_with (first
  | (go_at_call 266;(with_reducible refine (gI h0 (by omega)).mono ?_);rintro e w2 ⟨s2,rfl,z2,g2⟩;have G2:=Lib.hid ((za w _).trans' g2)))
 go_ret
 exact ⟨_,rfl,z2,G2.out⟩
theorem wS {w:World}{p1 p2:Option Addr}{n1 c1 n2 c2:Nat}{n:Int}:Calls Tryz.prog 190 #[.agg #[.int .i64 2,.int .i64 n,.slice p1 n1 c1,.slice p2 n2 c2]] w (jW 4 w):=by
 go_enter Tryz.func190,Tryz.ntmps190
 go_wp2
 go_ret
 exact ⟨_,rfl,Nat.le_refl 4,za _ _⟩
theorem wR {w:World}{p1 p2:Option Addr}{n1 c1 n2 c2:Nat}{n:Int}:Calls Tryz.prog 190 #[.agg #[.int .i64 3,.int .i64 n,.slice p1 n1 c1,.slice p2 n2 c2]] w (jW 5 w):=by
 go_enter Tryz.func190,Tryz.ntmps190
 go_wp2
 go_ret
 exact ⟨_,rfl,Nat.le_refl 5,za _ _⟩
theorem wQ {w:World}{p2:Option Addr}{b o n1 c1 n2 c2:Nat}{n:Int}{s:ByteArray} (hn:0<n1) (hc:w.cell? ⟨b,o,none⟩=some (.string s)) (hs:s.size≤12):Calls Tryz.prog 190 #[.agg #[.int .i64 4,.int .i64 n,.slice (some ⟨b,o,none⟩) n1 c1,.slice p2 n2 c2]] w (jW 12 w):=by
 have hn0:(0:Int)<n1:=by omega
 have hca:=fun ob=>RD.ze hc (za w ob)
 go_enter Tryz.func190,Tryz.ntmps190
 go_wp2
 go_ret
 exact ⟨_,rfl,hs,za _ _⟩
theorem wN {w:World}{p2:Option Addr}{b o n1 c1 n2 c2:Nat}{n:Int}{s:ByteArray} (hn:0<n1) (hc:w.cell? ⟨b,o,none⟩=some (.string s)) (hs:s.size≤12):Calls Tryz.prog 190 #[.agg #[.int .i64 6,.int .i64 n,.slice (some ⟨b,o,none⟩) n1 c1,.slice p2 n2 c2]] w (jW 21 w):=by
 have hn0:(0:Int)<n1:=by omega
 have hca:=fun ob=>RD.ze hc (za w ob)
 have s1:(⟨#[109,101,109,98,101,114,115,40]⟩:ByteArray).size=8:=rfl
 have s2:(⟨#[41]⟩:ByteArray).size=1:=rfl
 go_enter Tryz.func190,Tryz.ntmps190
 go_wp2
 go_ret
 exact ⟨_,rfl,by simp only [ByteArray.size_append,s1,s2];omega,za _ _⟩
theorem wP {w:World}{p1 p2:Option Addr}{n1 c1 n2 c2:Nat}{n:Int}{us:List Value} (h:Cs w p1 us) (hl:us.length=n1) (hu:∀ u∈us,Vd u) (few:n1≤4):Calls Tryz.prog 190 #[.agg #[.int .i64 5,.int .i64 n,.slice p1 n1 c1,.slice p2 n2 c2]] w (jW 63 w):=by
 have H:=Lib.hid h
 have HU:=Lib.hid hu
 have HL:=Lib.hid hl
 clear h hu hl
 have s1:(⟨#[99,111,117,110,116,40]⟩:ByteArray).size=6:=rfl
 have s2:(⟨#[41]⟩:ByteArray).size=1:=rfl
 go_enter Tryz.func190,Tryz.ntmps190
 go_wp2_with (first
  | (go_at_call 267;(with_reducible refine (dP (H.out.grown (za _ _)) HL.out HU.out few).mono ?_);rintro e w2 ⟨s5,rfl,z5,g5⟩;have G5:=Lib.hid ((za w _).trans' g5);have z6:s5.size≤56:=(by omega)))
 go_ret
 exact ⟨_,rfl,by simp only [ByteArray.size_append,s1,s2];omega,G5.out⟩
theorem wM {w:World}{p1:Option Addr}{n1 c1 b o c2 D:Nat}{n x0 x1:Int}{q1 q2:Option Addr}{k1 l1 k2 l2:Nat} (hD:D≤10000000) (hx:OpT D w (.agg #[.int .i64 x0,.int .i64 x1,.slice q1 k1 l1,.slice q2 k2 l2]))
  (c0:w.cell? ⟨b,o,none⟩=some (.int .i64 x0)) (c1':w.cell? ⟨b,o+1,none⟩=some (.int .i64 x1)) (c2':w.cell? ⟨b,o+2,none⟩=some (.slice q1 k1 l1)) (c3:w.cell? ⟨b,o+3,none⟩=some (.slice q2 k2 l2)):Calls Tryz.prog 190 #[.agg #[.int .i64 7,.int .i64 n,.slice p1 n1 c1,.slice (some ⟨b,o,none⟩) 1 c2]] w (jW (3*D+9) w):=by
 have HX:=Lib.hid hx
 have e0:=fun ob=>RD.ze c0 (za w ob)
 have e1:=fun ob=>RD.ze c1' (za w ob)
 have e2:=fun ob=>RD.ze c2' (za w ob)
 have e3:=fun ob=>RD.ze c3 (za w ob)
 have s1:(⟨#[110,111,116,32]⟩:ByteArray).size=4:=rfl
 clear hx
 go_enter Tryz.func190,Tryz.ntmps190
 go_wp2_with (first
  | (go_at_call 268;(with_reducible refine (HX.out _ 4 (za _ _)).mono ?_);rintro e w2 ⟨s5,rfl,z5,g5⟩;have G5:=Lib.hid ((za w _).trans' g5)))
 go_ret
 exact ⟨_,rfl,by simp only [ByteArray.size_append,s1];omega,G5.out⟩
end MK
end
section
open Go Go.Proofs TR
namespace MK
open Go.AEv.GT (zO qq)
attribute [local go_sem ↓] Go.wp_at_zero Go.wp_at_succ
theorem tN {w:World}{p1:Option Addr}{n1 c1 b o c2 D:Nat}{n x0 x1 y0 y1:Int}{q1 q2 r1 r2:Option Addr}{k1 l1 k2 l2 i1 j1 i2 j2:Nat} (hD:D≤10000000) (hx:OpT D w (.agg #[.int .i64 x0,.int .i64 x1,.slice q1 k1 l1,.slice q2 k2 l2])) (hy:OpT D w (.agg #[.int .i64 y0,.int .i64 y1,.slice r1 i1 j1,.slice r2 i2 j2]))
  (c0:w.cell? ⟨b,o,none⟩=some (.int .i64 x0)) (c1':w.cell? ⟨b,o+1,none⟩=some (.int .i64 x1)) (c2':w.cell? ⟨b,o+2,none⟩=some (.slice q1 k1 l1)) (c3:w.cell? ⟨b,o+3,none⟩=some (.slice q2 k2 l2))
  (d0:w.cell? ⟨b,o+4,none⟩=some (.int .i64 y0)) (d1:w.cell? ⟨b,o+5,none⟩=some (.int .i64 y1)) (d2:w.cell? ⟨b,o+6,none⟩=some (.slice r1 i1 j1)) (d3:w.cell? ⟨b,o+7,none⟩=some (.slice r2 i2 j2)):Calls Tryz.prog 190 #[.agg #[.int .i64 11,.int .i64 n,.slice p1 n1 c1,.slice (some ⟨b,o,none⟩) 2 c2]] w (jW (3*D+9) w):=by
 have HX:=Lib.hid hx
 have HY:=Lib.hid hy
 have s1:(⟨#[32]⟩:ByteArray).size=1:=rfl
 have s2:(⟨#[60,61]⟩:ByteArray).size=2:=rfl
 obtain ⟨W1,hW1⟩:∃ W1,W1=w.alloc (.cells #[.int .i64 11,.int .i64 n,.slice p1 n1 c1,.slice (some ⟨b,o,none⟩) 2 c2] 152):=⟨_,rfl⟩
 have g1:Grown w W1:=by rw [hW1];exact za _ _
 have R1:zx Tryz.prog W1 (w.heap.size,0,0) 152 [.int .i64 11,.int .i64 n,.slice p1 n1 c1,.slice (some ⟨b,o,none⟩) 2 c2]:=by rw [hW1];exact zn w
 have KS:RowKit.Hid (∀ wx,Grown W1 wx→(wx.cell? ⟨w.heap.size,0,none⟩=some (.int .i64 11)∧wx.cell? ⟨w.heap.size,3,none⟩=some (.slice (some ⟨b,o,none⟩) 2 c2)∧wx.cell? ⟨b,o,none⟩=some (.int .i64 x0)∧wx.cell? ⟨b,o+1,none⟩=some (.int .i64 x1)∧wx.cell? ⟨b,o+2,none⟩=some (.slice q1 k1 l1)∧wx.cell? ⟨b,o+3,none⟩=some (.slice q2 k2 l2)∧wx.cell? ⟨b,o+4,none⟩=some (.int .i64 y0)∧wx.cell? ⟨b,o+5,none⟩=some (.int .i64 y1)∧wx.cell? ⟨b,o+6,none⟩=some (.slice r1 i1 j1)∧wx.cell? ⟨b,o+7,none⟩=some (.slice r2 i2 j2))):=Lib.hid (fun wx g=>⟨RD.ze (qG R1).1.1 g,RD.ze (qG R1).1.2.2.2 g,RD.ze c0 (g1.trans' g),RD.ze c1' (g1.trans' g),RD.ze c2' (g1.trans' g),RD.ze c3 (g1.trans' g),RD.ze d0 (g1.trans' g),RD.ze d1 (g1.trans' g),RD.ze d2 (g1.trans' g),RD.ze d3 (g1.trans' g)⟩)
 have G1:=Lib.hid g1
 clear hx hy g1 R1
 subst hW1
 go_enter Tryz.func190,Tryz.ntmps190
 go_wp2_with fail
 go_quiet (first | (go_at_call 269;exact Calls.quiet_of_same (Zd (m:=5) rfl)))
 go_wp2_with fail
 obtain ⟨WB,hWB⟩:∃ WB,WB=((w.alloc (.cells #[.int .i64 11,.int .i64 n,.slice p1 n1 c1,.slice (some ⟨b,o,none⟩) 2 c2] 152)).alloc (.cells #[.string ⟨#[97,110,100]⟩,.string ⟨#[111,114]⟩,.string ⟨#[45,62]⟩,.string ⟨#[60,61]⟩,.string ⟨#[60]⟩,.string ⟨#[62,61]⟩,.string ⟨#[62]⟩,.string ⟨#[61,61]⟩,.string ⟨#[43]⟩] 9)).drewN nq:=⟨_,rfl⟩
 have gb:Grown (w.alloc (.cells #[.int .i64 11,.int .i64 n,.slice p1 n1 c1,.slice (some ⟨b,o,none⟩) 2 c2] 152)) WB:=by rw [hWB];exact (za _ _).trans' (ql _ nq)
 rw [← hWB]
 have GB:=Lib.hid gb
 have GW:=Lib.hid (G1.out.trans' gb)
 obtain ⟨u0,u3,e0,e1,e2,e3,f0,f1,f2,f3⟩:=KS.out WB gb
 clear gb hWB c0 c1' c2' c3 d0 d1 d2 d3
 go_region_held3 (fun wx=>wx.cell? ⟨w.heap.size,0,none⟩=some (.int .i64 11)∧wx.cell? ⟨w.heap.size,3,none⟩=some (.slice (some ⟨b,o,none⟩) 2 c2)∧wx.cell? ⟨b,o,none⟩=some (.int .i64 x0)∧wx.cell? ⟨b,o+1,none⟩=some (.int .i64 x1)∧wx.cell? ⟨b,o+2,none⟩=some (.slice q1 k1 l1)∧wx.cell? ⟨b,o+3,none⟩=some (.slice q2 k2 l2)∧wx.cell? ⟨b,o+4,none⟩=some (.int .i64 y0)∧wx.cell? ⟨b,o+5,none⟩=some (.int .i64 y1)∧wx.cell? ⟨b,o+6,none⟩=some (.slice r1 i1 j1)∧wx.cell? ⟨b,o+7,none⟩=some (.slice r2 i2 j2))
  (first | exact ⟨u0,u3,e0,e1,e2,e3,f0,f1,f2,f3⟩ | exact KS.out _ (GB.out.trans' (zp _)) | exact KS.out _ (GB.out.trans' G5.out) | exact KS.out _ (GB.out.trans' G6.out))
  (first
   | (go_at_call 268;(with_reducible refine (HX.out _ 6 (GW.out.trans' (zp _))).mono ?_);rintro e w5 ⟨s5,rfl,z5,g5⟩;have G5:=Lib.hid ((zp _).trans' g5);have b1:¬ 9223372036854775807<s5.size+1:=(by omega);have b2:¬ 9223372036854775807<s5.size+1+2:=(by omega);have b3:¬ 9223372036854775807<s5.size+1+2+1:=(by omega);clear g5)
   | (go_at_call 268;(with_reducible refine (HY.out _ 6 (GW.out.trans' (zp _))).mono ?_);rintro e w5 ⟨s5,rfl,z5,g5⟩;have G5:=Lib.hid ((zp _).trans' g5);clear g5)
   | (go_at_call 268;(with_reducible refine (HX.out _ 6 (GW.out.trans' G5.out)).mono ?_);rintro e w6 ⟨s6,rfl,z6,g6⟩;have G6:=Lib.hid (G5.out.trans' g6);have b1:¬ 9223372036854775807<s6.size+1:=(by omega);have b2:¬ 9223372036854775807<s6.size+1+2:=(by omega);have b3:¬ 9223372036854775807<s6.size+1+2+1:=(by omega);have b4:¬ 9223372036854775807<s6.size+1+2+1+s5.size:=(by omega);clear g6)
   | (go_at_call 268;(with_reducible refine (HY.out _ 6 (GW.out.trans' G5.out)).mono ?_);rintro e w6 ⟨s6,rfl,z6,g6⟩;have G6:=Lib.hid (G5.out.trans' g6);have b4:¬ 9223372036854775807<s5.size+1+2+1+s6.size:=(by omega);clear g6))
 all_goals (
  dsimp only [Exit.then]
  go_wp2_with fail
  go_ret
  exact ⟨_,rfl,by simp only [ByteArray.size_append,s1,s2];omega,GW.out.trans' G6.out⟩)
theorem tM {w:World}{p1:Option Addr}{n1 c1 b o c2 D:Nat}{n x0 x1 y0 y1:Int}{q1 q2 r1 r2:Option Addr}{k1 l1 k2 l2 i1 j1 i2 j2:Nat} (hD:D≤10000000) (hx:OpT D w (.agg #[.int .i64 x0,.int .i64 x1,.slice q1 k1 l1,.slice q2 k2 l2])) (hy:OpT D w (.agg #[.int .i64 y0,.int .i64 y1,.slice r1 i1 j1,.slice r2 i2 j2]))
  (c0:w.cell? ⟨b,o,none⟩=some (.int .i64 x0)) (c1':w.cell? ⟨b,o+1,none⟩=some (.int .i64 x1)) (c2':w.cell? ⟨b,o+2,none⟩=some (.slice q1 k1 l1)) (c3:w.cell? ⟨b,o+3,none⟩=some (.slice q2 k2 l2))
  (d0:w.cell? ⟨b,o+4,none⟩=some (.int .i64 y0)) (d1:w.cell? ⟨b,o+5,none⟩=some (.int .i64 y1)) (d2:w.cell? ⟨b,o+6,none⟩=some (.slice r1 i1 j1)) (d3:w.cell? ⟨b,o+7,none⟩=some (.slice r2 i2 j2)):Calls Tryz.prog 190 #[.agg #[.int .i64 12,.int .i64 n,.slice p1 n1 c1,.slice (some ⟨b,o,none⟩) 2 c2]] w (jW (3*D+9) w):=by
 have HX:=Lib.hid hx
 have HY:=Lib.hid hy
 have s1:(⟨#[32]⟩:ByteArray).size=1:=rfl
 have s2:(⟨#[60]⟩:ByteArray).size=1:=rfl
 obtain ⟨W1,hW1⟩:∃ W1,W1=w.alloc (.cells #[.int .i64 12,.int .i64 n,.slice p1 n1 c1,.slice (some ⟨b,o,none⟩) 2 c2] 152):=⟨_,rfl⟩
 have g1:Grown w W1:=by rw [hW1];exact za _ _
 have R1:zx Tryz.prog W1 (w.heap.size,0,0) 152 [.int .i64 12,.int .i64 n,.slice p1 n1 c1,.slice (some ⟨b,o,none⟩) 2 c2]:=by rw [hW1];exact zn w
 have KS:RowKit.Hid (∀ wx,Grown W1 wx→(wx.cell? ⟨w.heap.size,0,none⟩=some (.int .i64 12)∧wx.cell? ⟨w.heap.size,3,none⟩=some (.slice (some ⟨b,o,none⟩) 2 c2)∧wx.cell? ⟨b,o,none⟩=some (.int .i64 x0)∧wx.cell? ⟨b,o+1,none⟩=some (.int .i64 x1)∧wx.cell? ⟨b,o+2,none⟩=some (.slice q1 k1 l1)∧wx.cell? ⟨b,o+3,none⟩=some (.slice q2 k2 l2)∧wx.cell? ⟨b,o+4,none⟩=some (.int .i64 y0)∧wx.cell? ⟨b,o+5,none⟩=some (.int .i64 y1)∧wx.cell? ⟨b,o+6,none⟩=some (.slice r1 i1 j1)∧wx.cell? ⟨b,o+7,none⟩=some (.slice r2 i2 j2))):=Lib.hid (fun wx g=>⟨RD.ze (qG R1).1.1 g,RD.ze (qG R1).1.2.2.2 g,RD.ze c0 (g1.trans' g),RD.ze c1' (g1.trans' g),RD.ze c2' (g1.trans' g),RD.ze c3 (g1.trans' g),RD.ze d0 (g1.trans' g),RD.ze d1 (g1.trans' g),RD.ze d2 (g1.trans' g),RD.ze d3 (g1.trans' g)⟩)
 have G1:=Lib.hid g1
 clear hx hy g1 R1
 subst hW1
 go_enter Tryz.func190,Tryz.ntmps190
 go_wp2_with fail
 go_quiet (first | (go_at_call 269;exact Calls.quiet_of_same (Zd (m:=5) rfl)))
 go_wp2_with fail
 obtain ⟨WB,hWB⟩:∃ WB,WB=((w.alloc (.cells #[.int .i64 12,.int .i64 n,.slice p1 n1 c1,.slice (some ⟨b,o,none⟩) 2 c2] 152)).alloc (.cells #[.string ⟨#[97,110,100]⟩,.string ⟨#[111,114]⟩,.string ⟨#[45,62]⟩,.string ⟨#[60,61]⟩,.string ⟨#[60]⟩,.string ⟨#[62,61]⟩,.string ⟨#[62]⟩,.string ⟨#[61,61]⟩,.string ⟨#[43]⟩] 9)).drewN nq:=⟨_,rfl⟩
 have gb:Grown (w.alloc (.cells #[.int .i64 12,.int .i64 n,.slice p1 n1 c1,.slice (some ⟨b,o,none⟩) 2 c2] 152)) WB:=by rw [hWB];exact (za _ _).trans' (ql _ nq)
 rw [← hWB]
 have GB:=Lib.hid gb
 have GW:=Lib.hid (G1.out.trans' gb)
 obtain ⟨u0,u3,e0,e1,e2,e3,f0,f1,f2,f3⟩:=KS.out WB gb
 clear gb hWB c0 c1' c2' c3 d0 d1 d2 d3
 go_region_held3 (fun wx=>wx.cell? ⟨w.heap.size,0,none⟩=some (.int .i64 12)∧wx.cell? ⟨w.heap.size,3,none⟩=some (.slice (some ⟨b,o,none⟩) 2 c2)∧wx.cell? ⟨b,o,none⟩=some (.int .i64 x0)∧wx.cell? ⟨b,o+1,none⟩=some (.int .i64 x1)∧wx.cell? ⟨b,o+2,none⟩=some (.slice q1 k1 l1)∧wx.cell? ⟨b,o+3,none⟩=some (.slice q2 k2 l2)∧wx.cell? ⟨b,o+4,none⟩=some (.int .i64 y0)∧wx.cell? ⟨b,o+5,none⟩=some (.int .i64 y1)∧wx.cell? ⟨b,o+6,none⟩=some (.slice r1 i1 j1)∧wx.cell? ⟨b,o+7,none⟩=some (.slice r2 i2 j2))
  (first | exact ⟨u0,u3,e0,e1,e2,e3,f0,f1,f2,f3⟩ | exact KS.out _ (GB.out.trans' (zp _)) | exact KS.out _ (GB.out.trans' G5.out) | exact KS.out _ (GB.out.trans' G6.out))
  (first
   | (go_at_call 268;(with_reducible refine (HX.out _ 6 (GW.out.trans' (zp _))).mono ?_);rintro e w5 ⟨s5,rfl,z5,g5⟩;have G5:=Lib.hid ((zp _).trans' g5);have b1:¬ 9223372036854775807<s5.size+1:=(by omega);have b2:¬ 9223372036854775807<s5.size+1+1:=(by omega);have b3:¬ 9223372036854775807<s5.size+1+1+1:=(by omega);clear g5)
   | (go_at_call 268;(with_reducible refine (HY.out _ 6 (GW.out.trans' (zp _))).mono ?_);rintro e w5 ⟨s5,rfl,z5,g5⟩;have G5:=Lib.hid ((zp _).trans' g5);clear g5)
   | (go_at_call 268;(with_reducible refine (HX.out _ 6 (GW.out.trans' G5.out)).mono ?_);rintro e w6 ⟨s6,rfl,z6,g6⟩;have G6:=Lib.hid (G5.out.trans' g6);have b1:¬ 9223372036854775807<s6.size+1:=(by omega);have b2:¬ 9223372036854775807<s6.size+1+1:=(by omega);have b3:¬ 9223372036854775807<s6.size+1+1+1:=(by omega);have b4:¬ 9223372036854775807<s6.size+1+1+1+s5.size:=(by omega);clear g6)
   | (go_at_call 268;(with_reducible refine (HY.out _ 6 (GW.out.trans' G5.out)).mono ?_);rintro e w6 ⟨s6,rfl,z6,g6⟩;have G6:=Lib.hid (G5.out.trans' g6);have b4:¬ 9223372036854775807<s5.size+1+1+1+s6.size:=(by omega);clear g6))
 all_goals (
  dsimp only [Exit.then]
  go_wp2_with fail
  go_ret
  exact ⟨_,rfl,by simp only [ByteArray.size_append,s1,s2];omega,GW.out.trans' G6.out⟩)
theorem tL {w:World}{p1:Option Addr}{n1 c1 b o c2 D:Nat}{n x0 x1 y0 y1:Int}{q1 q2 r1 r2:Option Addr}{k1 l1 k2 l2 i1 j1 i2 j2:Nat} (hD:D≤10000000) (hx:OpT D w (.agg #[.int .i64 x0,.int .i64 x1,.slice q1 k1 l1,.slice q2 k2 l2])) (hy:OpT D w (.agg #[.int .i64 y0,.int .i64 y1,.slice r1 i1 j1,.slice r2 i2 j2]))
  (c0:w.cell? ⟨b,o,none⟩=some (.int .i64 x0)) (c1':w.cell? ⟨b,o+1,none⟩=some (.int .i64 x1)) (c2':w.cell? ⟨b,o+2,none⟩=some (.slice q1 k1 l1)) (c3:w.cell? ⟨b,o+3,none⟩=some (.slice q2 k2 l2))
  (d0:w.cell? ⟨b,o+4,none⟩=some (.int .i64 y0)) (d1:w.cell? ⟨b,o+5,none⟩=some (.int .i64 y1)) (d2:w.cell? ⟨b,o+6,none⟩=some (.slice r1 i1 j1)) (d3:w.cell? ⟨b,o+7,none⟩=some (.slice r2 i2 j2)):Calls Tryz.prog 190 #[.agg #[.int .i64 13,.int .i64 n,.slice p1 n1 c1,.slice (some ⟨b,o,none⟩) 2 c2]] w (jW (3*D+9) w):=by
 have HX:=Lib.hid hx
 have HY:=Lib.hid hy
 have s1:(⟨#[32]⟩:ByteArray).size=1:=rfl
 have s2:(⟨#[62,61]⟩:ByteArray).size=2:=rfl
 obtain ⟨W1,hW1⟩:∃ W1,W1=w.alloc (.cells #[.int .i64 13,.int .i64 n,.slice p1 n1 c1,.slice (some ⟨b,o,none⟩) 2 c2] 152):=⟨_,rfl⟩
 have g1:Grown w W1:=by rw [hW1];exact za _ _
 have R1:zx Tryz.prog W1 (w.heap.size,0,0) 152 [.int .i64 13,.int .i64 n,.slice p1 n1 c1,.slice (some ⟨b,o,none⟩) 2 c2]:=by rw [hW1];exact zn w
 have KS:RowKit.Hid (∀ wx,Grown W1 wx→(wx.cell? ⟨w.heap.size,0,none⟩=some (.int .i64 13)∧wx.cell? ⟨w.heap.size,3,none⟩=some (.slice (some ⟨b,o,none⟩) 2 c2)∧wx.cell? ⟨b,o,none⟩=some (.int .i64 x0)∧wx.cell? ⟨b,o+1,none⟩=some (.int .i64 x1)∧wx.cell? ⟨b,o+2,none⟩=some (.slice q1 k1 l1)∧wx.cell? ⟨b,o+3,none⟩=some (.slice q2 k2 l2)∧wx.cell? ⟨b,o+4,none⟩=some (.int .i64 y0)∧wx.cell? ⟨b,o+5,none⟩=some (.int .i64 y1)∧wx.cell? ⟨b,o+6,none⟩=some (.slice r1 i1 j1)∧wx.cell? ⟨b,o+7,none⟩=some (.slice r2 i2 j2))):=Lib.hid (fun wx g=>⟨RD.ze (qG R1).1.1 g,RD.ze (qG R1).1.2.2.2 g,RD.ze c0 (g1.trans' g),RD.ze c1' (g1.trans' g),RD.ze c2' (g1.trans' g),RD.ze c3 (g1.trans' g),RD.ze d0 (g1.trans' g),RD.ze d1 (g1.trans' g),RD.ze d2 (g1.trans' g),RD.ze d3 (g1.trans' g)⟩)
 have G1:=Lib.hid g1
 clear hx hy g1 R1
 subst hW1
 go_enter Tryz.func190,Tryz.ntmps190
 go_wp2_with fail
 go_quiet (first | (go_at_call 269;exact Calls.quiet_of_same (Zd (m:=5) rfl)))
 go_wp2_with fail
 obtain ⟨WB,hWB⟩:∃ WB,WB=((w.alloc (.cells #[.int .i64 13,.int .i64 n,.slice p1 n1 c1,.slice (some ⟨b,o,none⟩) 2 c2] 152)).alloc (.cells #[.string ⟨#[97,110,100]⟩,.string ⟨#[111,114]⟩,.string ⟨#[45,62]⟩,.string ⟨#[60,61]⟩,.string ⟨#[60]⟩,.string ⟨#[62,61]⟩,.string ⟨#[62]⟩,.string ⟨#[61,61]⟩,.string ⟨#[43]⟩] 9)).drewN nq:=⟨_,rfl⟩
 have gb:Grown (w.alloc (.cells #[.int .i64 13,.int .i64 n,.slice p1 n1 c1,.slice (some ⟨b,o,none⟩) 2 c2] 152)) WB:=by rw [hWB];exact (za _ _).trans' (ql _ nq)
 rw [← hWB]
 have GB:=Lib.hid gb
 have GW:=Lib.hid (G1.out.trans' gb)
 obtain ⟨u0,u3,e0,e1,e2,e3,f0,f1,f2,f3⟩:=KS.out WB gb
 clear gb hWB c0 c1' c2' c3 d0 d1 d2 d3
 go_region_held3 (fun wx=>wx.cell? ⟨w.heap.size,0,none⟩=some (.int .i64 13)∧wx.cell? ⟨w.heap.size,3,none⟩=some (.slice (some ⟨b,o,none⟩) 2 c2)∧wx.cell? ⟨b,o,none⟩=some (.int .i64 x0)∧wx.cell? ⟨b,o+1,none⟩=some (.int .i64 x1)∧wx.cell? ⟨b,o+2,none⟩=some (.slice q1 k1 l1)∧wx.cell? ⟨b,o+3,none⟩=some (.slice q2 k2 l2)∧wx.cell? ⟨b,o+4,none⟩=some (.int .i64 y0)∧wx.cell? ⟨b,o+5,none⟩=some (.int .i64 y1)∧wx.cell? ⟨b,o+6,none⟩=some (.slice r1 i1 j1)∧wx.cell? ⟨b,o+7,none⟩=some (.slice r2 i2 j2))
  (first | exact ⟨u0,u3,e0,e1,e2,e3,f0,f1,f2,f3⟩ | exact KS.out _ (GB.out.trans' (zp _)) | exact KS.out _ (GB.out.trans' G5.out) | exact KS.out _ (GB.out.trans' G6.out))
  (first
   | (go_at_call 268;(with_reducible refine (HX.out _ 6 (GW.out.trans' (zp _))).mono ?_);rintro e w5 ⟨s5,rfl,z5,g5⟩;have G5:=Lib.hid ((zp _).trans' g5);have b1:¬ 9223372036854775807<s5.size+1:=(by omega);have b2:¬ 9223372036854775807<s5.size+1+2:=(by omega);have b3:¬ 9223372036854775807<s5.size+1+2+1:=(by omega);clear g5)
   | (go_at_call 268;(with_reducible refine (HY.out _ 6 (GW.out.trans' (zp _))).mono ?_);rintro e w5 ⟨s5,rfl,z5,g5⟩;have G5:=Lib.hid ((zp _).trans' g5);clear g5)
   | (go_at_call 268;(with_reducible refine (HX.out _ 6 (GW.out.trans' G5.out)).mono ?_);rintro e w6 ⟨s6,rfl,z6,g6⟩;have G6:=Lib.hid (G5.out.trans' g6);have b1:¬ 9223372036854775807<s6.size+1:=(by omega);have b2:¬ 9223372036854775807<s6.size+1+2:=(by omega);have b3:¬ 9223372036854775807<s6.size+1+2+1:=(by omega);have b4:¬ 9223372036854775807<s6.size+1+2+1+s5.size:=(by omega);clear g6)
   | (go_at_call 268;(with_reducible refine (HY.out _ 6 (GW.out.trans' G5.out)).mono ?_);rintro e w6 ⟨s6,rfl,z6,g6⟩;have G6:=Lib.hid (G5.out.trans' g6);have b4:¬ 9223372036854775807<s5.size+1+2+1+s6.size:=(by omega);clear g6))
 all_goals (
  dsimp only [Exit.then]
  go_wp2_with fail
  go_ret
  exact ⟨_,rfl,by simp only [ByteArray.size_append,s1,s2];omega,GW.out.trans' G6.out⟩)
end MK
end
end Go.AEv
