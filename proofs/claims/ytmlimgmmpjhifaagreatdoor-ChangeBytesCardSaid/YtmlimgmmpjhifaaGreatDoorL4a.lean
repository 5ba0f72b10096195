/- Changes, their encodings and texts: calls and runs (L4a). Conditions: those of each theorem. -/
import Derived.Test.YtmlimgmmpjhifaaGreatDoorH3x0
set_option maxHeartbeats 8000000
set_option maxRecDepth 100000
set_option linter.all false
namespace Go.AEv
section
open Go Go.Proofs TR
namespace MK
open Go.AEv.GT (zO qq)
theorem jW.more {m m2:Nat}{w w2:World}{e:Ending} (h:jW m w e w2) (hm:m≤m2):jW m2 w e w2:=by
 obtain ⟨s,e,z,g⟩:=h
 exact ⟨s,e,Nat.le_trans z hm,g⟩
theorem Zk {f:FuncId}{args:Array Value}{m m2:Nat}{w:World} (h:Calls Tryz.prog f args w (jW m w)) (hm:m≤m2):Calls Tryz.prog f args w (jW m2 w):=h.mono fun _ _ h=>h.more hm
theorem Yk {d D:Nat} (hD:D≤10000000) (ih:∀ {w:World}{lo:Nat}{v:Value},FE lo d w v→Calls Tryz.prog 190 #[v] w (jW D w)) {w:World}{lo:Nat}{v:Value} (h:FE lo d w v):OpT D w v:=by
 intro wx l g
 have h':=h.qA d (zU g)
 obtain ⟨op,n,p1,n1,c1,p2,n2,c2,rfl⟩:=h.form
 have HF:=Lib.hid (h'.qA d (zU (za wx (.cells #[.int .i64 op,.int .i64 n,.slice p1 n1 c1,.slice p2 n2 c2] 152))))
 have s1:(⟨#[40]⟩:ByteArray).size=1:=rfl
 have s2:(⟨#[41]⟩:ByteArray).size=1:=rfl
 clear h h' g
 go_enter Tryz.func268,Tryz.ntmps268
 go_wp2_with (first
  | (go_at_call 269;(with_reducible refine (KP).mono ?_);rintro e w2 ⟨rfl,rfl⟩)
  | (go_at_call 190;(with_reducible refine (ih HF.out).mono ?_);rintro e w2 ⟨s5,rfl,z5,g5⟩;have G5:=Lib.hid ((za wx _).trans' g5)))
 all_goals (
  go_ret
  exact ⟨_,rfl,by (try simp only [ByteArray.size_append,s1,s2]);omega,G5.out⟩)
theorem CN {d:Nat}{w:World}{lo:Nat}{p:Option Addr}{ch:List (List Value)} (hc:Cs w p ch.flatten) (hs:∀ a∈ch,a.length=4∧FE lo d w (.agg a.toArray)) (h2:ch.length=2) :
  ∃ b o x0 x1 q1 k1 l1 q2 k2 l2 y0 y1 r1 i1 j1 r2 i2 j2,p=some ⟨b,o,none⟩∧(w.cell? ⟨b,o,none⟩=some (.int .i64 x0)∧w.cell? ⟨b,o+1,none⟩=some (.int .i64 x1)∧w.cell? ⟨b,o+2,none⟩=some (.slice q1 k1 l1)∧w.cell? ⟨b,o+3,none⟩=some (.slice q2 k2 l2))∧FE lo d w (.agg #[.int .i64 x0,.int .i64 x1,.slice q1 k1 l1,.slice q2 k2 l2]) ∧
   (w.cell? ⟨b,o+4,none⟩=some (.int .i64 y0)∧w.cell? ⟨b,o+5,none⟩=some (.int .i64 y1)∧w.cell? ⟨b,o+6,none⟩=some (.slice r1 i1 j1)∧w.cell? ⟨b,o+7,none⟩=some (.slice r2 i2 j2))∧FE lo d w (.agg #[.int .i64 y0,.int .i64 y1,.slice r1 i1 j1,.slice r2 i2 j2]):=by
 obtain ⟨b,o,x0,x1,q1,k1,l1,q2,k2,l2,rfl,a0,a1,a2,a3,fa⟩:=QH hc hs (j:=0) (by omega)
 obtain ⟨b',o',y0,y1,r1,i1,j1,r2,i2,j2,e,b0,b1,b2,b3,fb⟩:=QH hc hs (j:=1) (by omega)
 cases e
 exact ⟨b,o,x0,x1,q1,k1,l1,q2,k2,l2,y0,y1,r1,i1,j1,r2,i2,j2,rfl,⟨a0,a1,a2,a3⟩,fa,⟨b0,b1,b2,b3⟩,fb⟩
theorem mr {d D:Nat} (hD:D≤10000000) (h18:18≤D) (ih:∀ {w:World}{lo:Nat}{v:Value},FE lo d w v→Calls Tryz.prog 190 #[v] w (jW D w)) {w:World}{lo:Nat}{v:Value} (h:FE lo (d+1) w v):Calls Tryz.prog 190 #[v] w (jW (3*D+9) w):=by
 obtain ⟨op,n,rv,av,rs,ch,rfl,hf,hr,hk,ha,hs⟩:=h
 obtain ⟨p1,c1,rfl,_,hc1,_⟩:=ju hr
 obtain ⟨p2,c2,rfl,_,hc2,_⟩:=ju ha
 have l1:=hf.lo
 have l16:=hf.hi
 have hargs:=hf.args
 unfold yi at hargs
 by_cases h8:8≤op
 ·rw [if_pos h8]at hargs
  obtain ⟨b,o,x0,x1,q1,k1,m1,q2,k2,m2,y0,y1,r1,i1,j1,r2,i2,j2,rfl,⟨a0,a1,a2,a3⟩,fa,⟨b0,b1,b2,b3⟩,fb⟩:=CN hc2 hs hargs
  have OX:=Yk hD ih fa
  have OY:=Yk hD ih fb
  rw [hargs]
  have:op=8∨op=9∨op=10∨op=11∨op=12∨op=13∨op=14∨op=15∨op=16:=by omega
  rcases this with rfl | rfl | rfl | rfl | rfl | rfl | rfl | rfl | rfl
  ·exact wL hD OX OY a0 a1 a2 a3 b0 b1 b2 b3
  ·exact wK hD OX OY a0 a1 a2 a3 b0 b1 b2 b3
  ·exact tO hD OX OY a0 a1 a2 a3 b0 b1 b2 b3
  ·exact tN hD OX OY a0 a1 a2 a3 b0 b1 b2 b3
  ·exact tM hD OX OY a0 a1 a2 a3 b0 b1 b2 b3
  ·exact tL hD OX OY a0 a1 a2 a3 b0 b1 b2 b3
  ·exact tK hD OX OY a0 a1 a2 a3 b0 b1 b2 b3
  ·exact tJ hD OX OY a0 a1 a2 a3 b0 b1 b2 b3
  ·exact tI hD OX OY a0 a1 a2 a3 b0 b1 b2 b3
 ·rw [if_neg h8]at hargs
  by_cases h7:op=7
  ·rw [if_pos h7]at hargs
   subst h7
   obtain ⟨b,o,x0,x1,q1,k1,m1,q2,k2,m2,rfl,a0,a1,a2,a3,fa⟩:=QH hc2 hs (j:=0) (by omega)
   rw [hargs]
   exact wM hD (Yk hD ih fa) a0 a1 a2 a3
  ·have:op=1∨op=2∨op=3∨op=4∨op=5∨op=6:=by omega
   have one:op=4∨op=6→∃ b o s,p1=some ⟨b,o,none⟩∧0<rs.length∧w.cell? ⟨b,o,none⟩=some (.string s)∧s.size≤12:=fun h=>by
    have hp:=hf.one h
    obtain ⟨s,e,z⟩:=hk _ (List.getElem_mem hp)
    obtain ⟨b,o,e2,hc⟩:=hc1 (fun e=>by rw [e]at hp;cases hp)
    have:=hc 0 _ (List.getElem?_eq_getElem hp)
    rw [e]at this
    exact ⟨b,o,s,e2,hp,this,z⟩
   rcases this with rfl | rfl | rfl | rfl | rfl | rfl
   ·exact Zk (wT hf.n0 hf.n1) (by omega)
   ·exact Zk wS (by omega)
   ·exact Zk wR (by omega)
   ·obtain ⟨b,o,s,rfl,h0,hc,z⟩:=one (.inl rfl)
    exact Zk (wQ h0 hc z) (by omega)
   ·exact Zk (wP hc1 rfl hk hf.few) (by omega)
   ·obtain ⟨b,o,s,rfl,h0,hc,z⟩:=one (.inr rfl)
    exact Zk (wN h0 hc z) (by omega)
def Dn:Nat→Nat
 | 0=>18
 | d+1=>3*Dn d+9
theorem wB:∀ d,18≤Dn d
 | 0=>Nat.le_refl _
 | d+1=>by have:=wB d;unfold Dn;omega
theorem ej:∀ {d e:Nat},d≤e→Dn d≤Dn e
 | d,0,h=>by rw [Nat.le_zero.1 h];exact Nat.le_refl _
 | d,e+1,h=>by
  rcases Nat.lt_or_ge d (e+1) with h1 | h1
  ·have:=ej (Nat.le_of_lt_succ h1)
   show Dn d≤3*Dn e+9
   omega
  ·rw [Nat.le_antisymm h h1];exact Nat.le_refl _
theorem Uw:∀ (d:Nat) {w:World}{lo:Nat}{v:Value},d≤8→FE lo d w v→Calls Tryz.prog 190 #[v] w (jW (Dn d) w)
 | 0,_,_,_,_,h=>h.elim
 | d+1,_,_,_,hd,h=>mr (Nat.le_trans (ej (show d≤8 by omega)) (by decide)) (wB d) (fun h'=>Uw d (by omega) h') h
end MK
end
end Go.AEv
namespace Go
theorem jY {P:Program}{md:Region.Mode}{ops:Array Oper}{Q:Exit→Act→World→Prop}{S S':World→Prop} (hs:∀ w,S' w→S w):∀ (fuel:Nat) (listed:Array Bool) (a:Act) (w:World),wpAnyH P md ops Q S' fuel listed a w→wpAnyH P md ops Q S fuel listed a w
 | 0,_,_,_,h=>h
 | fuel+1,_,_,_,h=>⟨h.1,fun i hi=>wpOp_mono (fun _ _ h'=>⟨hs _ h'.1,jY hs fuel _ _ _ h'.2⟩) (h.2 i hi)⟩
end Go
namespace Go.AEv
open Go Go.Proofs TR
namespace MK
open Go.AEv.GT (zO qq)
attribute [local go_sem ↓] Go.wp_at_zero Go.wp_at_succ
theorem aP {w:World}{b:Nat}{t:TypeId}{v0 v1 v2 v3 v4 v5 v6:Value} (h:zx Tryz.prog w (b,0,0) t [v0,v1,v2,v3,v4,v5,v6]) :
  w.cell? ⟨b,0,none⟩=some v0∧w.cell? ⟨b,1,none⟩=some v1∧w.cell? ⟨b,2,none⟩=some v2∧w.cell? ⟨b,3,none⟩=some v3∧w.cell? ⟨b,4,none⟩=some v4∧w.cell? ⟨b,5,none⟩=some v5∧w.cell? ⟨b,6,none⟩=some v6:=
 ⟨(zc h rfl).1,(zc h rfl).1,(zc h rfl).1,(zc h rfl).1,(zc h rfl).1,(zc h rfl).1,(zc h rfl).1⟩
abbrev TxT (D:Nat) (w:World) (v:Value):Prop:=∀ wx:World,Grown w wx→Calls Tryz.prog 190 #[v] wx (jW D wx)
theorem xX {w:World}{enf:Bool}{nm:ByteArray}{x0 x1:Int}{q1 q2:Option Addr}{k1 l1 k2 l2 D:Nat} (hD:D≤10000000) (hn:nm.size≤12) (hx:TxT D w (.agg #[.int .i64 x0,.int .i64 x1,.slice q1 k1 l1,.slice q2 k2 l2])):Calls Tryz.prog 125 #[.agg #[.bool enf,.int .i64 1,.string nm,.int .i64 x0,.int .i64 x1,.slice q1 k1 l1,.slice q2 k2 l2]] w (jW (D+40) w):=by
 have HX:=Lib.hid hx
 have s1:(⟨#[58,32]⟩:ByteArray).size=2:=rfl
 have s2:(⟨#[59,10]⟩:ByteArray).size=2:=rfl
 have s3:(⟨#[115,116,97,116,105,99,32]⟩:ByteArray).size=7:=rfl
 have s4:(⟨#[101,110,102,111,114,99,101,32]⟩:ByteArray).size=8:=rfl
 have s5:(⟨#[100,101,99,108,97,114,101,32]⟩:ByteArray).size=8:=rfl
 have hwr:IntKind.i64.wrap (0:Int)=0:=by decide
 have b1:¬ 9223372036854775807<15+nm.size:=by omega
 have b2:¬ 9223372036854775807<15+nm.size+2:=by omega
 have b1':¬ 9223372036854775807<8+7+nm.size:=by omega
 have b2':¬ 9223372036854775807<8+7+nm.size+2:=by omega
 obtain ⟨W1,hW1⟩:∃ W1,W1=w.alloc (.cells #[.bool enf,.int .i64 1,.string nm,.int .i64 x0,.int .i64 x1,.slice q1 k1 l1,.slice q2 k2 l2] 160):=⟨_,rfl⟩
 have g1:Grown w W1:=by rw [hW1];exact za _ _
 have R1:zx Tryz.prog W1 (w.heap.size,0,0) 160 [.bool enf,.int .i64 1,.string nm,.int .i64 x0,.int .i64 x1,.slice q1 k1 l1,.slice q2 k2 l2]:=by rw [hW1];exact zn w
 have h1:w.heap.size<W1.heap.size:=zx.lt R1
 have KS:RowKit.Hid (∀ wx,Grown W1 wx→(wx.cell? ⟨w.heap.size,1,none⟩=some (.int .i64 1)∧wx.cell? ⟨w.heap.size,2,none⟩=some (.string nm)∧wx.cell? ⟨w.heap.size,3,none⟩=some (.int .i64 x0)∧wx.cell? ⟨w.heap.size,4,none⟩=some (.int .i64 x1)∧wx.cell? ⟨w.heap.size,5,none⟩=some (.slice q1 k1 l1)∧wx.cell? ⟨w.heap.size,6,none⟩=some (.slice q2 k2 l2))):=Lib.hid (fun wx g=>(aP (zk g R1)).2)
 have G1:=Lib.hid g1
 clear hx g1 R1
 cases enf
 all_goals (
  go_enter Tryz.func125,Tryz.ntmps125
  go_wp2_with fail
  rw [← hW1]
  clear hW1
  obtain ⟨u1,u2,u3,u4,u5,u6⟩:=KS.out W1 (RD.zL _)
  refine wp_region_held_drew (S:=(fun wx=>wx.cell? ⟨w.heap.size,1,none⟩=some (.int .i64 1)∧wx.cell? ⟨w.heap.size,2,none⟩=some (.string nm)∧wx.cell? ⟨w.heap.size,3,none⟩=some (.int .i64 x0)∧wx.cell? ⟨w.heap.size,4,none⟩=some (.int .i64 x1)∧wx.cell? ⟨w.heap.size,5,none⟩=some (.slice q1 k1 l1)∧wx.cell? ⟨w.heap.size,6,none⟩=some (.slice q2 k2 l2))) (by kernel_rfl) (KS.out _ (zp _)) (fun hHeld=>?_)
  refine wpAnyH_take (i:=0) (oi:=⟨some 6,_,_,_,_,_⟩) (v:=?_) rfl (by kernel_rfl) (by kernel_rfl) (by kernel_rfl) (fun _ _ _ h=>h) (Or.inl ⟨by rfl,?_⟩) (by assumption) ?_
  rotate_left
  ·intro w hSw
   try dsimp only at hSw
   go_simp
   try with_reducible rfl
  try dsimp only
  try simp only [Act.put,List.setIfInBounds_toArray,List.set_cons_zero,List.set_cons_succ]
  refine wpAnyH_take (i:=2) (oi:=⟨some 8,_,_,_,_,_⟩) (v:=?_) rfl (by kernel_rfl) (by kernel_rfl) (by kernel_rfl) (fun _ _ _ h=>h) (Or.inl ⟨by rfl,?_⟩) (by assumption) ?_
  rotate_left
  ·intro w hSw
   try dsimp only at hSw
   go_simp
   try with_reducible rfl
  try dsimp only
  try simp only [Act.put,List.setIfInBounds_toArray,List.set_cons_zero,List.set_cons_succ]
  refine wpAnyH_take (i:=3) (oi:=⟨some 9,_,_,_,_,_⟩) (v:=?_) rfl (by kernel_rfl) (by kernel_rfl) (by kernel_rfl) (fun _ _ _ h=>h) (Or.inl ⟨by rfl,?_⟩) (by assumption) ?_
  rotate_left
  ·intro w hSw
   try dsimp only at hSw
   go_simp
   try with_reducible rfl
  try dsimp only
  try simp only [Act.put,List.setIfInBounds_toArray,List.set_cons_zero,List.set_cons_succ]
  refine wpAnyH_take (i:=4) (oi:=⟨some 10,_,_,_,_,_⟩) (v:=?_) rfl (by kernel_rfl) (by kernel_rfl) (by kernel_rfl) (fun _ _ _ h=>h) (Or.inl ⟨by rfl,?_⟩) (by assumption) ?_
  rotate_left
  ·intro w hSw
   try dsimp only at hSw
   go_simp
   try with_reducible rfl
  try dsimp only
  try simp only [Act.put,List.setIfInBounds_toArray,List.set_cons_zero,List.set_cons_succ]
  refine wpAnyH_take (i:=8) (oi:=⟨some 14,_,_,_,_,_⟩) (v:=?_) rfl (by kernel_rfl) (by kernel_rfl) (by kernel_rfl) (fun _ _ _ h=>h) (Or.inl ⟨by rfl,?_⟩) (by assumption) ?_
  rotate_left
  ·intro w hSw
   try dsimp only at hSw
   go_simp
   try with_reducible rfl
  try dsimp only
  try simp only [Act.put,List.setIfInBounds_toArray,List.set_cons_zero,List.set_cons_succ]
  refine wpAnyH_take (i:=9) (oi:=⟨some 15,_,_,_,_,_⟩) (v:=?_) rfl (by kernel_rfl) (by kernel_rfl) (by kernel_rfl) (fun _ _ _ h=>h) (Or.inl ⟨by rfl,?_⟩) (by assumption) ?_
  rotate_left
  ·intro w hSw
   try dsimp only at hSw
   go_simp
   try with_reducible rfl
  try dsimp only
  try simp only [Act.put,List.setIfInBounds_toArray,List.set_cons_zero,List.set_cons_succ]
  refine wpAnyH_take (i:=12) (oi:=⟨some 18,_,_,_,_,_⟩) (v:=?_) rfl (by kernel_rfl) (by kernel_rfl) (by kernel_rfl) (fun _ _ _ h=>h) (Or.inl ⟨by rfl,?_⟩) (by assumption) ?_
  rotate_left
  ·intro w hSw
   try dsimp only at hSw
   go_simp
   try with_reducible rfl
  try dsimp only
  try simp only [Act.put,List.setIfInBounds_toArray,List.set_cons_zero,List.set_cons_succ]
  refine wpAnyH_take (i:=13) (oi:=⟨some 19,_,_,_,_,_⟩) (v:=?_) rfl (by kernel_rfl) (by kernel_rfl) (by kernel_rfl) (fun _ _ _ h=>h) (Or.inl ⟨by rfl,?_⟩) (by assumption) ?_
  rotate_left
  ·intro w hSw
   try dsimp only at hSw
   go_simp
   try with_reducible rfl
  try dsimp only
  try simp only [Act.put,List.setIfInBounds_toArray,List.set_cons_zero,List.set_cons_succ]
  refine wpAnyH_ready (rs:=[1,14]) (by kernel_rfl) (by simp) ?_
  refine AllReadyH.cons rfl (fun K hK=>?_) (AllReadyH.cons rfl (fun K hK=>?_) AllReadyH.nil)
  ·go_simp
   refine hK.out _ _ (KS.out _ ((za _ _).trans' (zp _))) (fun hHeld2=>?_)
   clear hK K hHeld
   try simp only [Act.put,List.setIfInBounds_toArray,List.set_cons_zero,List.set_cons_succ]
   refine jY (S':=(fun wx=>(wx.cell? ⟨w.heap.size,1,none⟩=some (.int .i64 1)∧wx.cell? ⟨w.heap.size,2,none⟩=some (.string nm)∧wx.cell? ⟨w.heap.size,3,none⟩=some (.int .i64 x0)∧wx.cell? ⟨w.heap.size,4,none⟩=some (.int .i64 x1)∧wx.cell? ⟨w.heap.size,5,none⟩=some (.slice q1 k1 l1)∧wx.cell? ⟨w.heap.size,6,none⟩=some (.slice q2 k2 l2))∧wx.cell? ⟨W1.heap.size,0,none⟩=some (.string ⟨#[115,116,97,116,105,99,32]⟩))) (fun w h=>h.1) _ _ _ _ ?_
   have hT:=fun wx (g:Grown ((W1.alloc (.cells #[.string ⟨#[115,116,97,116,105,99,32]⟩,.string ⟨#[100,121,110,97,109,105,99,32]⟩,.string ⟨#[117,115,101,114,115,32]⟩] 9)).drew) wx)=>(zc (k:=0) (zk ((zp _).trans' g) (zn W1 (z:=#[.string ⟨#[115,116,97,116,105,99,32]⟩,.string ⟨#[100,121,110,97,109,105,99,32]⟩,.string ⟨#[117,115,101,114,115,32]⟩]) (t:=9))) rfl).1
   have HT:=Lib.hid hT
   have hHeld:(fun wx=>(wx.cell? ⟨w.heap.size,1,none⟩=some (.int .i64 1)∧wx.cell? ⟨w.heap.size,2,none⟩=some (.string nm)∧wx.cell? ⟨w.heap.size,3,none⟩=some (.int .i64 x0)∧wx.cell? ⟨w.heap.size,4,none⟩=some (.int .i64 x1)∧wx.cell? ⟨w.heap.size,5,none⟩=some (.slice q1 k1 l1)∧wx.cell? ⟨w.heap.size,6,none⟩=some (.slice q2 k2 l2))∧wx.cell? ⟨W1.heap.size,0,none⟩=some (.string ⟨#[115,116,97,116,105,99,32]⟩)) ((W1.alloc (.cells #[.string ⟨#[115,116,97,116,105,99,32]⟩,.string ⟨#[100,121,110,97,109,105,99,32]⟩,.string ⟨#[117,115,101,114,115,32]⟩] 9)).drew):=⟨hHeld2,hT _ (RD.zL _)⟩
   clear hHeld2 hT
   refine wpAnyH_take (i:=5) (oi:=⟨some 11,_,_,_,_,_⟩) (v:=?_) rfl (by kernel_rfl) (by kernel_rfl) (by kernel_rfl) (fun _ _ _ h=>h) (Or.inl ⟨by rfl,?_⟩) (by assumption) ?_
   rotate_left
   ·intro w hSw
    try dsimp only at hSw
    go_simp
    try with_reducible rfl
   try dsimp only
   try simp only [Act.put,List.setIfInBounds_toArray,List.set_cons_zero,List.set_cons_succ]
   refine wpAnyH_take (i:=6) (oi:=⟨some 12,_,_,_,_,_⟩) (v:=?_) rfl (by kernel_rfl) (by kernel_rfl) (by kernel_rfl) (fun _ _ _ h=>h) (Or.inl ⟨by rfl,?_⟩) (by assumption) ?_
   rotate_left
   ·intro w hSw
    try dsimp only at hSw
    go_simp
    try with_reducible rfl
   try dsimp only
   try simp only [Act.put,List.setIfInBounds_toArray,List.set_cons_zero,List.set_cons_succ]
   refine wpAnyH_take (i:=7) (oi:=⟨some 13,_,_,_,_,_⟩) (v:=?_) rfl (by kernel_rfl) (by kernel_rfl) (by kernel_rfl) (fun _ _ _ h=>h) (Or.inl ⟨by rfl,?_⟩) (by assumption) ?_
   rotate_left
   ·intro w hSw
    try dsimp only at hSw
    go_simp
    try with_reducible rfl
   try dsimp only
   try simp only [Act.put,List.setIfInBounds_toArray,List.set_cons_zero,List.set_cons_succ]
   refine wpAnyH_take (i:=10) (oi:=⟨some 16,_,_,_,_,_⟩) (v:=?_) rfl (by kernel_rfl) (by kernel_rfl) (by kernel_rfl) (fun _ _ _ h=>h) (Or.inl ⟨by rfl,?_⟩) (by assumption) ?_
   rotate_left
   ·intro w hSw
    try dsimp only at hSw
    go_simp
    try with_reducible rfl
   try dsimp only
   try simp only [Act.put,List.setIfInBounds_toArray,List.set_cons_zero,List.set_cons_succ]
   refine wpAnyH_take (i:=11) (oi:=⟨some 17,_,_,_,_,_⟩) (v:=?_) rfl (by kernel_rfl) (by kernel_rfl) (by kernel_rfl) (fun _ _ _ h=>h) (Or.inl ⟨by rfl,?_⟩) (by assumption) ?_
   rotate_left
   ·intro w hSw
    try dsimp only at hSw
    go_simp
    try with_reducible rfl
   try dsimp only
   try simp only [Act.put,List.setIfInBounds_toArray,List.set_cons_zero,List.set_cons_succ]
   refine wpAnyH_ready (rs:=[14]) (by kernel_rfl) (by simp) ?_
   refine AllReadyH.cons rfl (fun K hK=>?_) AllReadyH.nil
   go_simp
   go_at_call 190
   with_reducible refine (HX.out _ (G1.out.trans' ((za _ (.cells #[.string ⟨#[115,116,97,116,105,99,32]⟩,.string ⟨#[100,121,110,97,109,105,99,32]⟩,.string ⟨#[117,115,101,114,115,32]⟩] 9)).trans' (zp _)))).mono ?_
   rintro e w5 ⟨t5,rfl,z5,g5⟩
   have G5:=Lib.hid (((za W1 (.cells #[.string ⟨#[115,116,97,116,105,99,32]⟩,.string ⟨#[100,121,110,97,109,105,99,32]⟩,.string ⟨#[117,115,101,114,115,32]⟩] 9)).trans' (zp _)).trans' g5)
   have b3:¬ 9223372036854775807<15+nm.size+2+t5.size:=by omega
   have b4:¬ 9223372036854775807<15+nm.size+2+t5.size+2:=by omega
   have b3':¬ 9223372036854775807<8+7+nm.size+2+t5.size:=by omega
   have b4':¬ 9223372036854775807<8+7+nm.size+2+t5.size+2:=by omega
   go_wp2_with fail
   refine hK.out _ _ ⟨KS.out _ G5.out,HT.out _ g5⟩ (fun hHeld2=>?_)
   clear hK K hHeld
   try simp only [Act.put,List.setIfInBounds_toArray,List.set_cons_zero,List.set_cons_succ]
   refine wpAnyH_take (i:=15) (oi:=⟨some 21,_,_,_,_,_⟩) (v:=?_) rfl (by kernel_rfl) (by kernel_rfl) (by kernel_rfl) (fun _ _ _ h=>h) (Or.inl ⟨by rfl,?_⟩) (by assumption) ?_
   rotate_left
   ·intro w hSw
    try dsimp only at hSw
    go_simp
    try with_reducible rfl
   try dsimp only
   try simp only [Act.put,List.setIfInBounds_toArray,List.set_cons_zero,List.set_cons_succ]
   refine wpAnyH_take (i:=16) (oi:=⟨some 22,_,_,_,_,_⟩) (v:=?_) rfl (by kernel_rfl) (by kernel_rfl) (by kernel_rfl) (fun _ _ _ h=>h) (Or.inl ⟨by rfl,?_⟩) (by assumption) ?_
   rotate_left
   ·intro w hSw
    try dsimp only at hSw
    go_simp
    try with_reducible rfl
   try dsimp only
   try simp only [Act.put,List.setIfInBounds_toArray,List.set_cons_zero,List.set_cons_succ]
   refine wpAnyH_take (i:=17) (oi:=⟨some 2,_,_,_,_,_⟩) (v:=?_) rfl (by kernel_rfl) (by kernel_rfl) (by kernel_rfl) (fun _ _ _ h=>h) (Or.inl ⟨by rfl,?_⟩) (by assumption) ?_
   rotate_left
   ·intro w hSw
    try dsimp only at hSw
    go_simp
    try with_reducible rfl
   try dsimp only
   try simp only [Act.put,List.setIfInBounds_toArray,List.set_cons_zero,List.set_cons_succ]
   refine wpAnyH_done (by kernel_rfl) ?_ _
   try simp only [Act.put,List.setIfInBounds_toArray,List.set_cons_zero,List.set_cons_succ]
   dsimp only [Exit.then]
   go_wp2_with fail
   go_ret
   exact ⟨_,rfl,by simp only [ByteArray.size_append,s1,s2,s3,s4,s5];omega,G1.out.trans' G5.out⟩
  ·go_simp
   go_at_call 190
   with_reducible refine (HX.out _ (G1.out.trans' (zp _))).mono ?_
   rintro e w5 ⟨t5,rfl,z5,g5⟩
   have G5:=Lib.hid ((zp W1).trans' g5)
   have b3:¬ 9223372036854775807<15+nm.size+2+t5.size:=by omega
   have b4:¬ 9223372036854775807<15+nm.size+2+t5.size+2:=by omega
   have b3':¬ 9223372036854775807<8+7+nm.size+2+t5.size:=by omega
   have b4':¬ 9223372036854775807<8+7+nm.size+2+t5.size+2:=by omega
   go_wp2_with fail
   refine hK.out _ _ (KS.out _ G5.out) (fun hHeld2=>?_)
   clear hK K hHeld
   try simp only [Act.put,List.setIfInBounds_toArray,List.set_cons_zero,List.set_cons_succ]
   refine wpAnyH_ready (rs:=[1]) (by kernel_rfl) (by simp) ?_
   refine AllReadyH.cons rfl (fun K hK=>?_) AllReadyH.nil
   go_simp
   refine hK.out _ _ (KS.out _ (G5.out.trans' (za _ _))) (fun hHeld3=>?_)
   clear hK K hHeld2
   try simp only [Act.put,List.setIfInBounds_toArray,List.set_cons_zero,List.set_cons_succ]
   refine jY (S':=(fun wx=>(wx.cell? ⟨w.heap.size,1,none⟩=some (.int .i64 1)∧wx.cell? ⟨w.heap.size,2,none⟩=some (.string nm)∧wx.cell? ⟨w.heap.size,3,none⟩=some (.int .i64 x0)∧wx.cell? ⟨w.heap.size,4,none⟩=some (.int .i64 x1)∧wx.cell? ⟨w.heap.size,5,none⟩=some (.slice q1 k1 l1)∧wx.cell? ⟨w.heap.size,6,none⟩=some (.slice q2 k2 l2))∧wx.cell? ⟨w5.heap.size,0,none⟩=some (.string ⟨#[115,116,97,116,105,99,32]⟩))) (fun w h=>h.1) _ _ _ _ ?_
   have hHeld:(fun wx=>(wx.cell? ⟨w.heap.size,1,none⟩=some (.int .i64 1)∧wx.cell? ⟨w.heap.size,2,none⟩=some (.string nm)∧wx.cell? ⟨w.heap.size,3,none⟩=some (.int .i64 x0)∧wx.cell? ⟨w.heap.size,4,none⟩=some (.int .i64 x1)∧wx.cell? ⟨w.heap.size,5,none⟩=some (.slice q1 k1 l1)∧wx.cell? ⟨w.heap.size,6,none⟩=some (.slice q2 k2 l2))∧wx.cell? ⟨w5.heap.size,0,none⟩=some (.string ⟨#[115,116,97,116,105,99,32]⟩)) (w5.alloc (.cells #[.string ⟨#[115,116,97,116,105,99,32]⟩,.string ⟨#[100,121,110,97,109,105,99,32]⟩,.string ⟨#[117,115,101,114,115,32]⟩] 9)):=⟨hHeld3,(zc (k:=0) (zn w5 (z:=#[.string ⟨#[115,116,97,116,105,99,32]⟩,.string ⟨#[100,121,110,97,109,105,99,32]⟩,.string ⟨#[117,115,101,114,115,32]⟩]) (t:=9)) rfl).1⟩
   clear hHeld3
   refine wpAnyH_take (i:=5) (oi:=⟨some 11,_,_,_,_,_⟩) (v:=?_) rfl (by kernel_rfl) (by kernel_rfl) (by kernel_rfl) (fun _ _ _ h=>h) (Or.inl ⟨by rfl,?_⟩) (by assumption) ?_
   rotate_left
   ·intro w hSw
    try dsimp only at hSw
    go_simp
    try with_reducible rfl
   try dsimp only
   try simp only [Act.put,List.setIfInBounds_toArray,List.set_cons_zero,List.set_cons_succ]
   refine wpAnyH_take (i:=6) (oi:=⟨some 12,_,_,_,_,_⟩) (v:=?_) rfl (by kernel_rfl) (by kernel_rfl) (by kernel_rfl) (fun _ _ _ h=>h) (Or.inl ⟨by rfl,?_⟩) (by assumption) ?_
   rotate_left
   ·intro w hSw
    try dsimp only at hSw
    go_simp
    try with_reducible rfl
   try dsimp only
   try simp only [Act.put,List.setIfInBounds_toArray,List.set_cons_zero,List.set_cons_succ]
   refine wpAnyH_take (i:=7) (oi:=⟨some 13,_,_,_,_,_⟩) (v:=?_) rfl (by kernel_rfl) (by kernel_rfl) (by kernel_rfl) (fun _ _ _ h=>h) (Or.inl ⟨by rfl,?_⟩) (by assumption) ?_
   rotate_left
   ·intro w hSw
    try dsimp only at hSw
    go_simp
    try with_reducible rfl
   try dsimp only
   try simp only [Act.put,List.setIfInBounds_toArray,List.set_cons_zero,List.set_cons_succ]
   refine wpAnyH_take (i:=10) (oi:=⟨some 16,_,_,_,_,_⟩) (v:=?_) rfl (by kernel_rfl) (by kernel_rfl) (by kernel_rfl) (fun _ _ _ h=>h) (Or.inl ⟨by rfl,?_⟩) (by assumption) ?_
   rotate_left
   ·intro w hSw
    try dsimp only at hSw
    go_simp
    try with_reducible rfl
   try dsimp only
   try simp only [Act.put,List.setIfInBounds_toArray,List.set_cons_zero,List.set_cons_succ]
   refine wpAnyH_take (i:=11) (oi:=⟨some 17,_,_,_,_,_⟩) (v:=?_) rfl (by kernel_rfl) (by kernel_rfl) (by kernel_rfl) (fun _ _ _ h=>h) (Or.inl ⟨by rfl,?_⟩) (by assumption) ?_
   rotate_left
   ·intro w hSw
    try dsimp only at hSw
    go_simp
    try with_reducible rfl
   try dsimp only
   try simp only [Act.put,List.setIfInBounds_toArray,List.set_cons_zero,List.set_cons_succ]
   refine wpAnyH_take (i:=15) (oi:=⟨some 21,_,_,_,_,_⟩) (v:=?_) rfl (by kernel_rfl) (by kernel_rfl) (by kernel_rfl) (fun _ _ _ h=>h) (Or.inl ⟨by rfl,?_⟩) (by assumption) ?_
   rotate_left
   ·intro w hSw
    try dsimp only at hSw
    go_simp
    try with_reducible rfl
   try dsimp only
   try simp only [Act.put,List.setIfInBounds_toArray,List.set_cons_zero,List.set_cons_succ]
   refine wpAnyH_take (i:=16) (oi:=⟨some 22,_,_,_,_,_⟩) (v:=?_) rfl (by kernel_rfl) (by kernel_rfl) (by kernel_rfl) (fun _ _ _ h=>h) (Or.inl ⟨by rfl,?_⟩) (by assumption) ?_
   rotate_left
   ·intro w hSw
    try dsimp only at hSw
    go_simp
    try with_reducible rfl
   try dsimp only
   try simp only [Act.put,List.setIfInBounds_toArray,List.set_cons_zero,List.set_cons_succ]
   refine wpAnyH_take (i:=17) (oi:=⟨some 2,_,_,_,_,_⟩) (v:=?_) rfl (by kernel_rfl) (by kernel_rfl) (by kernel_rfl) (fun _ _ _ h=>h) (Or.inl ⟨by rfl,?_⟩) (by assumption) ?_
   rotate_left
   ·intro w hSw
    try dsimp only at hSw
    go_simp
    try with_reducible rfl
   try dsimp only
   try simp only [Act.put,List.setIfInBounds_toArray,List.set_cons_zero,List.set_cons_succ]
   refine wpAnyH_done (by kernel_rfl) ?_ _
   try simp only [Act.put,List.setIfInBounds_toArray,List.set_cons_zero,List.set_cons_succ]
   dsimp only [Exit.then]
   go_wp2_with fail
   go_ret
   exact ⟨_,rfl,by simp only [ByteArray.size_append,s1,s2,s3,s4,s5];omega,G1.out.trans' (G5.out.trans' (za _ _))⟩
)
theorem xW {w:World}{enf:Bool}{nm:ByteArray}{x0 x1:Int}{q1 q2:Option Addr}{k1 l1 k2 l2 D:Nat} (hD:D≤10000000) (hn:nm.size≤12) (hx:TxT D w (.agg #[.int .i64 x0,.int .i64 x1,.slice q1 k1 l1,.slice q2 k2 l2])):Calls Tryz.prog 125 #[.agg #[.bool enf,.int .i64 2,.string nm,.int .i64 x0,.int .i64 x1,.slice q1 k1 l1,.slice q2 k2 l2]] w (jW (D+40) w):=by
 have HX:=Lib.hid hx
 have s1:(⟨#[58,32]⟩:ByteArray).size=2:=rfl
 have s2:(⟨#[59,10]⟩:ByteArray).size=2:=rfl
 have s3:(⟨#[100,121,110,97,109,105,99,32]⟩:ByteArray).size=8:=rfl
 have s4:(⟨#[101,110,102,111,114,99,101,32]⟩:ByteArray).size=8:=rfl
 have s5:(⟨#[100,101,99,108,97,114,101,32]⟩:ByteArray).size=8:=rfl
 have hwr:IntKind.i64.wrap (1:Int)=1:=by decide
 have b1:¬ 9223372036854775807<16+nm.size:=by omega
 have b2:¬ 9223372036854775807<16+nm.size+2:=by omega
 have b1':¬ 9223372036854775807<8+8+nm.size:=by omega
 have b2':¬ 9223372036854775807<8+8+nm.size+2:=by omega
 obtain ⟨W1,hW1⟩:∃ W1,W1=w.alloc (.cells #[.bool enf,.int .i64 2,.string nm,.int .i64 x0,.int .i64 x1,.slice q1 k1 l1,.slice q2 k2 l2] 160):=⟨_,rfl⟩
 have g1:Grown w W1:=by rw [hW1];exact za _ _
 have R1:zx Tryz.prog W1 (w.heap.size,0,0) 160 [.bool enf,.int .i64 2,.string nm,.int .i64 x0,.int .i64 x1,.slice q1 k1 l1,.slice q2 k2 l2]:=by rw [hW1];exact zn w
 have h1:w.heap.size<W1.heap.size:=zx.lt R1
 have KS:RowKit.Hid (∀ wx,Grown W1 wx→(wx.cell? ⟨w.heap.size,1,none⟩=some (.int .i64 2)∧wx.cell? ⟨w.heap.size,2,none⟩=some (.string nm)∧wx.cell? ⟨w.heap.size,3,none⟩=some (.int .i64 x0)∧wx.cell? ⟨w.heap.size,4,none⟩=some (.int .i64 x1)∧wx.cell? ⟨w.heap.size,5,none⟩=some (.slice q1 k1 l1)∧wx.cell? ⟨w.heap.size,6,none⟩=some (.slice q2 k2 l2))):=Lib.hid (fun wx g=>(aP (zk g R1)).2)
 have G1:=Lib.hid g1
 clear hx g1 R1
 cases enf
 all_goals (
  go_enter Tryz.func125,Tryz.ntmps125
  go_wp2_with fail
  rw [← hW1]
  clear hW1
  obtain ⟨u1,u2,u3,u4,u5,u6⟩:=KS.out W1 (RD.zL _)
  refine wp_region_held_drew (S:=(fun wx=>wx.cell? ⟨w.heap.size,1,none⟩=some (.int .i64 2)∧wx.cell? ⟨w.heap.size,2,none⟩=some (.string nm)∧wx.cell? ⟨w.heap.size,3,none⟩=some (.int .i64 x0)∧wx.cell? ⟨w.heap.size,4,none⟩=some (.int .i64 x1)∧wx.cell? ⟨w.heap.size,5,none⟩=some (.slice q1 k1 l1)∧wx.cell? ⟨w.heap.size,6,none⟩=some (.slice q2 k2 l2))) (by kernel_rfl) (KS.out _ (zp _)) (fun hHeld=>?_)
  refine wpAnyH_take (i:=0) (oi:=⟨some 6,_,_,_,_,_⟩) (v:=?_) rfl (by kernel_rfl) (by kernel_rfl) (by kernel_rfl) (fun _ _ _ h=>h) (Or.inl ⟨by rfl,?_⟩) (by assumption) ?_
  rotate_left
  ·intro w hSw
   try dsimp only at hSw
   go_simp
   try with_reducible rfl
  try dsimp only
  try simp only [Act.put,List.setIfInBounds_toArray,List.set_cons_zero,List.set_cons_succ]
  refine wpAnyH_take (i:=2) (oi:=⟨some 8,_,_,_,_,_⟩) (v:=?_) rfl (by kernel_rfl) (by kernel_rfl) (by kernel_rfl) (fun _ _ _ h=>h) (Or.inl ⟨by rfl,?_⟩) (by assumption) ?_
  rotate_left
  ·intro w hSw
   try dsimp only at hSw
   go_simp
   try with_reducible rfl
  try dsimp only
  try simp only [Act.put,List.setIfInBounds_toArray,List.set_cons_zero,List.set_cons_succ]
  refine wpAnyH_take (i:=3) (oi:=⟨some 9,_,_,_,_,_⟩) (v:=?_) rfl (by kernel_rfl) (by kernel_rfl) (by kernel_rfl) (fun _ _ _ h=>h) (Or.inl ⟨by rfl,?_⟩) (by assumption) ?_
  rotate_left
  ·intro w hSw
   try dsimp only at hSw
   go_simp
   try with_reducible rfl
  try dsimp only
  try simp only [Act.put,List.setIfInBounds_toArray,List.set_cons_zero,List.set_cons_succ]
  refine wpAnyH_take (i:=4) (oi:=⟨some 10,_,_,_,_,_⟩) (v:=?_) rfl (by kernel_rfl) (by kernel_rfl) (by kernel_rfl) (fun _ _ _ h=>h) (Or.inl ⟨by rfl,?_⟩) (by assumption) ?_
  rotate_left
  ·intro w hSw
   try dsimp only at hSw
   go_simp
   try with_reducible rfl
  try dsimp only
  try simp only [Act.put,List.setIfInBounds_toArray,List.set_cons_zero,List.set_cons_succ]
  refine wpAnyH_take (i:=8) (oi:=⟨some 14,_,_,_,_,_⟩) (v:=?_) rfl (by kernel_rfl) (by kernel_rfl) (by kernel_rfl) (fun _ _ _ h=>h) (Or.inl ⟨by rfl,?_⟩) (by assumption) ?_
  rotate_left
  ·intro w hSw
   try dsimp only at hSw
   go_simp
   try with_reducible rfl
  try dsimp only
  try simp only [Act.put,List.setIfInBounds_toArray,List.set_cons_zero,List.set_cons_succ]
  refine wpAnyH_take (i:=9) (oi:=⟨some 15,_,_,_,_,_⟩) (v:=?_) rfl (by kernel_rfl) (by kernel_rfl) (by kernel_rfl) (fun _ _ _ h=>h) (Or.inl ⟨by rfl,?_⟩) (by assumption) ?_
  rotate_left
  ·intro w hSw
   try dsimp only at hSw
   go_simp
   try with_reducible rfl
  try dsimp only
  try simp only [Act.put,List.setIfInBounds_toArray,List.set_cons_zero,List.set_cons_succ]
  refine wpAnyH_take (i:=12) (oi:=⟨some 18,_,_,_,_,_⟩) (v:=?_) rfl (by kernel_rfl) (by kernel_rfl) (by kernel_rfl) (fun _ _ _ h=>h) (Or.inl ⟨by rfl,?_⟩) (by assumption) ?_
  rotate_left
  ·intro w hSw
   try dsimp only at hSw
   go_simp
   try with_reducible rfl
  try dsimp only
  try simp only [Act.put,List.setIfInBounds_toArray,List.set_cons_zero,List.set_cons_succ]
  refine wpAnyH_take (i:=13) (oi:=⟨some 19,_,_,_,_,_⟩) (v:=?_) rfl (by kernel_rfl) (by kernel_rfl) (by kernel_rfl) (fun _ _ _ h=>h) (Or.inl ⟨by rfl,?_⟩) (by assumption) ?_
  rotate_left
  ·intro w hSw
   try dsimp only at hSw
   go_simp
   try with_reducible rfl
  try dsimp only
  try simp only [Act.put,List.setIfInBounds_toArray,List.set_cons_zero,List.set_cons_succ]
  refine wpAnyH_ready (rs:=[1,14]) (by kernel_rfl) (by simp) ?_
  refine AllReadyH.cons rfl (fun K hK=>?_) (AllReadyH.cons rfl (fun K hK=>?_) AllReadyH.nil)
  ·go_simp
   refine hK.out _ _ (KS.out _ ((za _ _).trans' (zp _))) (fun hHeld2=>?_)
   clear hK K hHeld
   try simp only [Act.put,List.setIfInBounds_toArray,List.set_cons_zero,List.set_cons_succ]
   refine jY (S':=(fun wx=>(wx.cell? ⟨w.heap.size,1,none⟩=some (.int .i64 2)∧wx.cell? ⟨w.heap.size,2,none⟩=some (.string nm)∧wx.cell? ⟨w.heap.size,3,none⟩=some (.int .i64 x0)∧wx.cell? ⟨w.heap.size,4,none⟩=some (.int .i64 x1)∧wx.cell? ⟨w.heap.size,5,none⟩=some (.slice q1 k1 l1)∧wx.cell? ⟨w.heap.size,6,none⟩=some (.slice q2 k2 l2))∧wx.cell? ⟨W1.heap.size,1,none⟩=some (.string ⟨#[100,121,110,97,109,105,99,32]⟩))) (fun w h=>h.1) _ _ _ _ ?_
   have hT:=fun wx (g:Grown ((W1.alloc (.cells #[.string ⟨#[115,116,97,116,105,99,32]⟩,.string ⟨#[100,121,110,97,109,105,99,32]⟩,.string ⟨#[117,115,101,114,115,32]⟩] 9)).drew) wx)=>(zc (k:=1) (zk ((zp _).trans' g) (zn W1 (z:=#[.string ⟨#[115,116,97,116,105,99,32]⟩,.string ⟨#[100,121,110,97,109,105,99,32]⟩,.string ⟨#[117,115,101,114,115,32]⟩]) (t:=9))) rfl).1
   have HT:=Lib.hid hT
   have hHeld:(fun wx=>(wx.cell? ⟨w.heap.size,1,none⟩=some (.int .i64 2)∧wx.cell? ⟨w.heap.size,2,none⟩=some (.string nm)∧wx.cell? ⟨w.heap.size,3,none⟩=some (.int .i64 x0)∧wx.cell? ⟨w.heap.size,4,none⟩=some (.int .i64 x1)∧wx.cell? ⟨w.heap.size,5,none⟩=some (.slice q1 k1 l1)∧wx.cell? ⟨w.heap.size,6,none⟩=some (.slice q2 k2 l2))∧wx.cell? ⟨W1.heap.size,1,none⟩=some (.string ⟨#[100,121,110,97,109,105,99,32]⟩)) ((W1.alloc (.cells #[.string ⟨#[115,116,97,116,105,99,32]⟩,.string ⟨#[100,121,110,97,109,105,99,32]⟩,.string ⟨#[117,115,101,114,115,32]⟩] 9)).drew):=⟨hHeld2,hT _ (RD.zL _)⟩
   clear hHeld2 hT
   refine wpAnyH_take (i:=5) (oi:=⟨some 11,_,_,_,_,_⟩) (v:=?_) rfl (by kernel_rfl) (by kernel_rfl) (by kernel_rfl) (fun _ _ _ h=>h) (Or.inl ⟨by rfl,?_⟩) (by assumption) ?_
   rotate_left
   ·intro w hSw
    try dsimp only at hSw
    go_simp
    try with_reducible rfl
   try dsimp only
   try simp only [Act.put,List.setIfInBounds_toArray,List.set_cons_zero,List.set_cons_succ]
   refine wpAnyH_take (i:=6) (oi:=⟨some 12,_,_,_,_,_⟩) (v:=?_) rfl (by kernel_rfl) (by kernel_rfl) (by kernel_rfl) (fun _ _ _ h=>h) (Or.inl ⟨by rfl,?_⟩) (by assumption) ?_
   rotate_left
   ·intro w hSw
    try dsimp only at hSw
    go_simp
    try with_reducible rfl
   try dsimp only
   try simp only [Act.put,List.setIfInBounds_toArray,List.set_cons_zero,List.set_cons_succ]
   refine wpAnyH_take (i:=7) (oi:=⟨some 13,_,_,_,_,_⟩) (v:=?_) rfl (by kernel_rfl) (by kernel_rfl) (by kernel_rfl) (fun _ _ _ h=>h) (Or.inl ⟨by rfl,?_⟩) (by assumption) ?_
   rotate_left
   ·intro w hSw
    try dsimp only at hSw
    go_simp
    try with_reducible rfl
   try dsimp only
   try simp only [Act.put,List.setIfInBounds_toArray,List.set_cons_zero,List.set_cons_succ]
   refine wpAnyH_take (i:=10) (oi:=⟨some 16,_,_,_,_,_⟩) (v:=?_) rfl (by kernel_rfl) (by kernel_rfl) (by kernel_rfl) (fun _ _ _ h=>h) (Or.inl ⟨by rfl,?_⟩) (by assumption) ?_
   rotate_left
   ·intro w hSw
    try dsimp only at hSw
    go_simp
    try with_reducible rfl
   try dsimp only
   try simp only [Act.put,List.setIfInBounds_toArray,List.set_cons_zero,List.set_cons_succ]
   refine wpAnyH_take (i:=11) (oi:=⟨some 17,_,_,_,_,_⟩) (v:=?_) rfl (by kernel_rfl) (by kernel_rfl) (by kernel_rfl) (fun _ _ _ h=>h) (Or.inl ⟨by rfl,?_⟩) (by assumption) ?_
   rotate_left
   ·intro w hSw
    try dsimp only at hSw
    go_simp
    try with_reducible rfl
   try dsimp only
   try simp only [Act.put,List.setIfInBounds_toArray,List.set_cons_zero,List.set_cons_succ]
   refine wpAnyH_ready (rs:=[14]) (by kernel_rfl) (by simp) ?_
   refine AllReadyH.cons rfl (fun K hK=>?_) AllReadyH.nil
   go_simp
   go_at_call 190
   with_reducible refine (HX.out _ (G1.out.trans' ((za _ (.cells #[.string ⟨#[115,116,97,116,105,99,32]⟩,.string ⟨#[100,121,110,97,109,105,99,32]⟩,.string ⟨#[117,115,101,114,115,32]⟩] 9)).trans' (zp _)))).mono ?_
   rintro e w5 ⟨t5,rfl,z5,g5⟩
   have G5:=Lib.hid (((za W1 (.cells #[.string ⟨#[115,116,97,116,105,99,32]⟩,.string ⟨#[100,121,110,97,109,105,99,32]⟩,.string ⟨#[117,115,101,114,115,32]⟩] 9)).trans' (zp _)).trans' g5)
   have b3:¬ 9223372036854775807<16+nm.size+2+t5.size:=by omega
   have b4:¬ 9223372036854775807<16+nm.size+2+t5.size+2:=by omega
   have b3':¬ 9223372036854775807<8+8+nm.size+2+t5.size:=by omega
   have b4':¬ 9223372036854775807<8+8+nm.size+2+t5.size+2:=by omega
   go_wp2_with fail
   refine hK.out _ _ ⟨KS.out _ G5.out,HT.out _ g5⟩ (fun hHeld2=>?_)
   clear hK K hHeld
   try simp only [Act.put,List.setIfInBounds_toArray,List.set_cons_zero,List.set_cons_succ]
   refine wpAnyH_take (i:=15) (oi:=⟨some 21,_,_,_,_,_⟩) (v:=?_) rfl (by kernel_rfl) (by kernel_rfl) (by kernel_rfl) (fun _ _ _ h=>h) (Or.inl ⟨by rfl,?_⟩) (by assumption) ?_
   rotate_left
   ·intro w hSw
    try dsimp only at hSw
    go_simp
    try with_reducible rfl
   try dsimp only
   try simp only [Act.put,List.setIfInBounds_toArray,List.set_cons_zero,List.set_cons_succ]
   refine wpAnyH_take (i:=16) (oi:=⟨some 22,_,_,_,_,_⟩) (v:=?_) rfl (by kernel_rfl) (by kernel_rfl) (by kernel_rfl) (fun _ _ _ h=>h) (Or.inl ⟨by rfl,?_⟩) (by assumption) ?_
   rotate_left
   ·intro w hSw
    try dsimp only at hSw
    go_simp
    try with_reducible rfl
   try dsimp only
   try simp only [Act.put,List.setIfInBounds_toArray,List.set_cons_zero,List.set_cons_succ]
   refine wpAnyH_take (i:=17) (oi:=⟨some 2,_,_,_,_,_⟩) (v:=?_) rfl (by kernel_rfl) (by kernel_rfl) (by kernel_rfl) (fun _ _ _ h=>h) (Or.inl ⟨by rfl,?_⟩) (by assumption) ?_
   rotate_left
   ·intro w hSw
    try dsimp only at hSw
    go_simp
    try with_reducible rfl
   try dsimp only
   try simp only [Act.put,List.setIfInBounds_toArray,List.set_cons_zero,List.set_cons_succ]
   refine wpAnyH_done (by kernel_rfl) ?_ _
   try simp only [Act.put,List.setIfInBounds_toArray,List.set_cons_zero,List.set_cons_succ]
   dsimp only [Exit.then]
   go_wp2_with fail
   go_ret
   exact ⟨_,rfl,by simp only [ByteArray.size_append,s1,s2,s3,s4,s5];omega,G1.out.trans' G5.out⟩
  ·go_simp
   go_at_call 190
   with_reducible refine (HX.out _ (G1.out.trans' (zp _))).mono ?_
   rintro e w5 ⟨t5,rfl,z5,g5⟩
   have G5:=Lib.hid ((zp W1).trans' g5)
   have b3:¬ 9223372036854775807<16+nm.size+2+t5.size:=by omega
   have b4:¬ 9223372036854775807<16+nm.size+2+t5.size+2:=by omega
   have b3':¬ 9223372036854775807<8+8+nm.size+2+t5.size:=by omega
   have b4':¬ 9223372036854775807<8+8+nm.size+2+t5.size+2:=by omega
   go_wp2_with fail
   refine hK.out _ _ (KS.out _ G5.out) (fun hHeld2=>?_)
   clear hK K hHeld
   try simp only [Act.put,List.setIfInBounds_toArray,List.set_cons_zero,List.set_cons_succ]
   refine wpAnyH_ready (rs:=[1]) (by kernel_rfl) (by simp) ?_
   refine AllReadyH.cons rfl (fun K hK=>?_) AllReadyH.nil
   go_simp
   refine hK.out _ _ (KS.out _ (G5.out.trans' (za _ _))) (fun hHeld3=>?_)
   clear hK K hHeld2
   try simp only [Act.put,List.setIfInBounds_toArray,List.set_cons_zero,List.set_cons_succ]
   refine jY (S':=(fun wx=>(wx.cell? ⟨w.heap.size,1,none⟩=some (.int .i64 2)∧wx.cell? ⟨w.heap.size,2,none⟩=some (.string nm)∧wx.cell? ⟨w.heap.size,3,none⟩=some (.int .i64 x0)∧wx.cell? ⟨w.heap.size,4,none⟩=some (.int .i64 x1)∧wx.cell? ⟨w.heap.size,5,none⟩=some (.slice q1 k1 l1)∧wx.cell? ⟨w.heap.size,6,none⟩=some (.slice q2 k2 l2))∧wx.cell? ⟨w5.heap.size,1,none⟩=some (.string ⟨#[100,121,110,97,109,105,99,32]⟩))) (fun w h=>h.1) _ _ _ _ ?_
   have hHeld:(fun wx=>(wx.cell? ⟨w.heap.size,1,none⟩=some (.int .i64 2)∧wx.cell? ⟨w.heap.size,2,none⟩=some (.string nm)∧wx.cell? ⟨w.heap.size,3,none⟩=some (.int .i64 x0)∧wx.cell? ⟨w.heap.size,4,none⟩=some (.int .i64 x1)∧wx.cell? ⟨w.heap.size,5,none⟩=some (.slice q1 k1 l1)∧wx.cell? ⟨w.heap.size,6,none⟩=some (.slice q2 k2 l2))∧wx.cell? ⟨w5.heap.size,1,none⟩=some (.string ⟨#[100,121,110,97,109,105,99,32]⟩)) (w5.alloc (.cells #[.string ⟨#[115,116,97,116,105,99,32]⟩,.string ⟨#[100,121,110,97,109,105,99,32]⟩,.string ⟨#[117,115,101,114,115,32]⟩] 9)):=⟨hHeld3,(zc (k:=1) (zn w5 (z:=#[.string ⟨#[115,116,97,116,105,99,32]⟩,.string ⟨#[100,121,110,97,109,105,99,32]⟩,.string ⟨#[117,115,101,114,115,32]⟩]) (t:=9)) rfl).1⟩
   clear hHeld3
   refine wpAnyH_take (i:=5) (oi:=⟨some 11,_,_,_,_,_⟩) (v:=?_) rfl (by kernel_rfl) (by kernel_rfl) (by kernel_rfl) (fun _ _ _ h=>h) (Or.inl ⟨by rfl,?_⟩) (by assumption) ?_
   rotate_left
   ·intro w hSw
    try dsimp only at hSw
    go_simp
    try with_reducible rfl
   try dsimp only
   try simp only [Act.put,List.setIfInBounds_toArray,List.set_cons_zero,List.set_cons_succ]
   refine wpAnyH_take (i:=6) (oi:=⟨some 12,_,_,_,_,_⟩) (v:=?_) rfl (by kernel_rfl) (by kernel_rfl) (by kernel_rfl) (fun _ _ _ h=>h) (Or.inl ⟨by rfl,?_⟩) (by assumption) ?_
   rotate_left
   ·intro w hSw
    try dsimp only at hSw
    go_simp
    try with_reducible rfl
   try dsimp only
   try simp only [Act.put,List.setIfInBounds_toArray,List.set_cons_zero,List.set_cons_succ]
   refine wpAnyH_take (i:=7) (oi:=⟨some 13,_,_,_,_,_⟩) (v:=?_) rfl (by kernel_rfl) (by kernel_rfl) (by kernel_rfl) (fun _ _ _ h=>h) (Or.inl ⟨by rfl,?_⟩) (by assumption) ?_
   rotate_left
   ·intro w hSw
    try dsimp only at hSw
    go_simp
    try with_reducible rfl
   try dsimp only
   try simp only [Act.put,List.setIfInBounds_toArray,List.set_cons_zero,List.set_cons_succ]
   refine wpAnyH_take (i:=10) (oi:=⟨some 16,_,_,_,_,_⟩) (v:=?_) rfl (by kernel_rfl) (by kernel_rfl) (by kernel_rfl) (fun _ _ _ h=>h) (Or.inl ⟨by rfl,?_⟩) (by assumption) ?_
   rotate_left
   ·intro w hSw
    try dsimp only at hSw
    go_simp
    try with_reducible rfl
   try dsimp only
   try simp only [Act.put,List.setIfInBounds_toArray,List.set_cons_zero,List.set_cons_succ]
   refine wpAnyH_take (i:=11) (oi:=⟨some 17,_,_,_,_,_⟩) (v:=?_) rfl (by kernel_rfl) (by kernel_rfl) (by kernel_rfl) (fun _ _ _ h=>h) (Or.inl ⟨by rfl,?_⟩) (by assumption) ?_
   rotate_left
   ·intro w hSw
    try dsimp only at hSw
    go_simp
    try with_reducible rfl
   try dsimp only
   try simp only [Act.put,List.setIfInBounds_toArray,List.set_cons_zero,List.set_cons_succ]
   refine wpAnyH_take (i:=15) (oi:=⟨some 21,_,_,_,_,_⟩) (v:=?_) rfl (by kernel_rfl) (by kernel_rfl) (by kernel_rfl) (fun _ _ _ h=>h) (Or.inl ⟨by rfl,?_⟩) (by assumption) ?_
   rotate_left
   ·intro w hSw
    try dsimp only at hSw
    go_simp
    try with_reducible rfl
   try dsimp only
   try simp only [Act.put,List.setIfInBounds_toArray,List.set_cons_zero,List.set_cons_succ]
   refine wpAnyH_take (i:=16) (oi:=⟨some 22,_,_,_,_,_⟩) (v:=?_) rfl (by kernel_rfl) (by kernel_rfl) (by kernel_rfl) (fun _ _ _ h=>h) (Or.inl ⟨by rfl,?_⟩) (by assumption) ?_
   rotate_left
   ·intro w hSw
    try dsimp only at hSw
    go_simp
    try with_reducible rfl
   try dsimp only
   try simp only [Act.put,List.setIfInBounds_toArray,List.set_cons_zero,List.set_cons_succ]
   refine wpAnyH_take (i:=17) (oi:=⟨some 2,_,_,_,_,_⟩) (v:=?_) rfl (by kernel_rfl) (by kernel_rfl) (by kernel_rfl) (fun _ _ _ h=>h) (Or.inl ⟨by rfl,?_⟩) (by assumption) ?_
   rotate_left
   ·intro w hSw
    try dsimp only at hSw
    go_simp
    try with_reducible rfl
   try dsimp only
   try simp only [Act.put,List.setIfInBounds_toArray,List.set_cons_zero,List.set_cons_succ]
   refine wpAnyH_done (by kernel_rfl) ?_ _
   try simp only [Act.put,List.setIfInBounds_toArray,List.set_cons_zero,List.set_cons_succ]
   dsimp only [Exit.then]
   go_wp2_with fail
   go_ret
   exact ⟨_,rfl,by simp only [ByteArray.size_append,s1,s2,s3,s4,s5];omega,G1.out.trans' (G5.out.trans' (za _ _))⟩
)
theorem xV {w:World}{enf:Bool}{nm:ByteArray}{x0 x1:Int}{q1 q2:Option Addr}{k1 l1 k2 l2 D:Nat} (hD:D≤10000000) (hn:nm.size≤12) (hx:TxT D w (.agg #[.int .i64 x0,.int .i64 x1,.slice q1 k1 l1,.slice q2 k2 l2])):Calls Tryz.prog 125 #[.agg #[.bool enf,.int .i64 3,.string nm,.int .i64 x0,.int .i64 x1,.slice q1 k1 l1,.slice q2 k2 l2]] w (jW (D+40) w):=by
 have HX:=Lib.hid hx
 have s1:(⟨#[58,32]⟩:ByteArray).size=2:=rfl
 have s2:(⟨#[59,10]⟩:ByteArray).size=2:=rfl
 have s3:(⟨#[117,115,101,114,115,32]⟩:ByteArray).size=6:=rfl
 have s4:(⟨#[101,110,102,111,114,99,101,32]⟩:ByteArray).size=8:=rfl
 have s5:(⟨#[100,101,99,108,97,114,101,32]⟩:ByteArray).size=8:=rfl
 have hwr:IntKind.i64.wrap (2:Int)=2:=by decide
 have b1:¬ 9223372036854775807<14+nm.size:=by omega
 have b2:¬ 9223372036854775807<14+nm.size+2:=by omega
 have b1':¬ 9223372036854775807<8+6+nm.size:=by omega
 have b2':¬ 9223372036854775807<8+6+nm.size+2:=by omega
 obtain ⟨W1,hW1⟩:∃ W1,W1=w.alloc (.cells #[.bool enf,.int .i64 3,.string nm,.int .i64 x0,.int .i64 x1,.slice q1 k1 l1,.slice q2 k2 l2] 160):=⟨_,rfl⟩
 have g1:Grown w W1:=by rw [hW1];exact za _ _
 have R1:zx Tryz.prog W1 (w.heap.size,0,0) 160 [.bool enf,.int .i64 3,.string nm,.int .i64 x0,.int .i64 x1,.slice q1 k1 l1,.slice q2 k2 l2]:=by rw [hW1];exact zn w
 have h1:w.heap.size<W1.heap.size:=zx.lt R1
 have KS:RowKit.Hid (∀ wx,Grown W1 wx→(wx.cell? ⟨w.heap.size,1,none⟩=some (.int .i64 3)∧wx.cell? ⟨w.heap.size,2,none⟩=some (.string nm)∧wx.cell? ⟨w.heap.size,3,none⟩=some (.int .i64 x0)∧wx.cell? ⟨w.heap.size,4,none⟩=some (.int .i64 x1)∧wx.cell? ⟨w.heap.size,5,none⟩=some (.slice q1 k1 l1)∧wx.cell? ⟨w.heap.size,6,none⟩=some (.slice q2 k2 l2))):=Lib.hid (fun wx g=>(aP (zk g R1)).2)
 have G1:=Lib.hid g1
 clear hx g1 R1
 cases enf
 all_goals (
  go_enter Tryz.func125,Tryz.ntmps125
  go_wp2_with fail
  rw [← hW1]
  clear hW1
  obtain ⟨u1,u2,u3,u4,u5,u6⟩:=KS.out W1 (RD.zL _)
  refine wp_region_held_drew (S:=(fun wx=>wx.cell? ⟨w.heap.size,1,none⟩=some (.int .i64 3)∧wx.cell? ⟨w.heap.size,2,none⟩=some (.string nm)∧wx.cell? ⟨w.heap.size,3,none⟩=some (.int .i64 x0)∧wx.cell? ⟨w.heap.size,4,none⟩=some (.int .i64 x1)∧wx.cell? ⟨w.heap.size,5,none⟩=some (.slice q1 k1 l1)∧wx.cell? ⟨w.heap.size,6,none⟩=some (.slice q2 k2 l2))) (by kernel_rfl) (KS.out _ (zp _)) (fun hHeld=>?_)
  refine wpAnyH_take (i:=0) (oi:=⟨some 6,_,_,_,_,_⟩) (v:=?_) rfl (by kernel_rfl) (by kernel_rfl) (by kernel_rfl) (fun _ _ _ h=>h) (Or.inl ⟨by rfl,?_⟩) (by assumption) ?_
  rotate_left
  ·intro w hSw
   try dsimp only at hSw
   go_simp
   try with_reducible rfl
  try dsimp only
  try simp only [Act.put,List.setIfInBounds_toArray,List.set_cons_zero,List.set_cons_succ]
  refine wpAnyH_take (i:=2) (oi:=⟨some 8,_,_,_,_,_⟩) (v:=?_) rfl (by kernel_rfl) (by kernel_rfl) (by kernel_rfl) (fun _ _ _ h=>h) (Or.inl ⟨by rfl,?_⟩) (by assumption) ?_
  rotate_left
  ·intro w hSw
   try dsimp only at hSw
   go_simp
   try with_reducible rfl
  try dsimp only
  try simp only [Act.put,List.setIfInBounds_toArray,List.set_cons_zero,List.set_cons_succ]
  refine wpAnyH_take (i:=3) (oi:=⟨some 9,_,_,_,_,_⟩) (v:=?_) rfl (by kernel_rfl) (by kernel_rfl) (by kernel_rfl) (fun _ _ _ h=>h) (Or.inl ⟨by rfl,?_⟩) (by assumption) ?_
  rotate_left
  ·intro w hSw
   try dsimp only at hSw
   go_simp
   try with_reducible rfl
  try dsimp only
  try simp only [Act.put,List.setIfInBounds_toArray,List.set_cons_zero,List.set_cons_succ]
  refine wpAnyH_take (i:=4) (oi:=⟨some 10,_,_,_,_,_⟩) (v:=?_) rfl (by kernel_rfl) (by kernel_rfl) (by kernel_rfl) (fun _ _ _ h=>h) (Or.inl ⟨by rfl,?_⟩) (by assumption) ?_
  rotate_left
  ·intro w hSw
   try dsimp only at hSw
   go_simp
   try with_reducible rfl
  try dsimp only
  try simp only [Act.put,List.setIfInBounds_toArray,List.set_cons_zero,List.set_cons_succ]
  refine wpAnyH_take (i:=8) (oi:=⟨some 14,_,_,_,_,_⟩) (v:=?_) rfl (by kernel_rfl) (by kernel_rfl) (by kernel_rfl) (fun _ _ _ h=>h) (Or.inl ⟨by rfl,?_⟩) (by assumption) ?_
  rotate_left
  ·intro w hSw
   try dsimp only at hSw
   go_simp
   try with_reducible rfl
  try dsimp only
  try simp only [Act.put,List.setIfInBounds_toArray,List.set_cons_zero,List.set_cons_succ]
  refine wpAnyH_take (i:=9) (oi:=⟨some 15,_,_,_,_,_⟩) (v:=?_) rfl (by kernel_rfl) (by kernel_rfl) (by kernel_rfl) (fun _ _ _ h=>h) (Or.inl ⟨by rfl,?_⟩) (by assumption) ?_
  rotate_left
  ·intro w hSw
   try dsimp only at hSw
   go_simp
   try with_reducible rfl
  try dsimp only
  try simp only [Act.put,List.setIfInBounds_toArray,List.set_cons_zero,List.set_cons_succ]
  refine wpAnyH_take (i:=12) (oi:=⟨some 18,_,_,_,_,_⟩) (v:=?_) rfl (by kernel_rfl) (by kernel_rfl) (by kernel_rfl) (fun _ _ _ h=>h) (Or.inl ⟨by rfl,?_⟩) (by assumption) ?_
  rotate_left
  ·intro w hSw
   try dsimp only at hSw
   go_simp
   try with_reducible rfl
  try dsimp only
  try simp only [Act.put,List.setIfInBounds_toArray,List.set_cons_zero,List.set_cons_succ]
  refine wpAnyH_take (i:=13) (oi:=⟨some 19,_,_,_,_,_⟩) (v:=?_) rfl (by kernel_rfl) (by kernel_rfl) (by kernel_rfl) (fun _ _ _ h=>h) (Or.inl ⟨by rfl,?_⟩) (by assumption) ?_
  rotate_left
  ·intro w hSw
   try dsimp only at hSw
   go_simp
   try with_reducible rfl
  try dsimp only
  try simp only [Act.put,List.setIfInBounds_toArray,List.set_cons_zero,List.set_cons_succ]
  refine wpAnyH_ready (rs:=[1,14]) (by kernel_rfl) (by simp) ?_
  refine AllReadyH.cons rfl (fun K hK=>?_) (AllReadyH.cons rfl (fun K hK=>?_) AllReadyH.nil)
  ·go_simp
   refine hK.out _ _ (KS.out _ ((za _ _).trans' (zp _))) (fun hHeld2=>?_)
   clear hK K hHeld
   try simp only [Act.put,List.setIfInBounds_toArray,List.set_cons_zero,List.set_cons_succ]
   refine jY (S':=(fun wx=>(wx.cell? ⟨w.heap.size,1,none⟩=some (.int .i64 3)∧wx.cell? ⟨w.heap.size,2,none⟩=some (.string nm)∧wx.cell? ⟨w.heap.size,3,none⟩=some (.int .i64 x0)∧wx.cell? ⟨w.heap.size,4,none⟩=some (.int .i64 x1)∧wx.cell? ⟨w.heap.size,5,none⟩=some (.slice q1 k1 l1)∧wx.cell? ⟨w.heap.size,6,none⟩=some (.slice q2 k2 l2))∧wx.cell? ⟨W1.heap.size,2,none⟩=some (.string ⟨#[117,115,101,114,115,32]⟩))) (fun w h=>h.1) _ _ _ _ ?_
   have hT:=fun wx (g:Grown ((W1.alloc (.cells #[.string ⟨#[115,116,97,116,105,99,32]⟩,.string ⟨#[100,121,110,97,109,105,99,32]⟩,.string ⟨#[117,115,101,114,115,32]⟩] 9)).drew) wx)=>(zc (k:=2) (zk ((zp _).trans' g) (zn W1 (z:=#[.string ⟨#[115,116,97,116,105,99,32]⟩,.string ⟨#[100,121,110,97,109,105,99,32]⟩,.string ⟨#[117,115,101,114,115,32]⟩]) (t:=9))) rfl).1
   have HT:=Lib.hid hT
   have hHeld:(fun wx=>(wx.cell? ⟨w.heap.size,1,none⟩=some (.int .i64 3)∧wx.cell? ⟨w.heap.size,2,none⟩=some (.string nm)∧wx.cell? ⟨w.heap.size,3,none⟩=some (.int .i64 x0)∧wx.cell? ⟨w.heap.size,4,none⟩=some (.int .i64 x1)∧wx.cell? ⟨w.heap.size,5,none⟩=some (.slice q1 k1 l1)∧wx.cell? ⟨w.heap.size,6,none⟩=some (.slice q2 k2 l2))∧wx.cell? ⟨W1.heap.size,2,none⟩=some (.string ⟨#[117,115,101,114,115,32]⟩)) ((W1.alloc (.cells #[.string ⟨#[115,116,97,116,105,99,32]⟩,.string ⟨#[100,121,110,97,109,105,99,32]⟩,.string ⟨#[117,115,101,114,115,32]⟩] 9)).drew):=⟨hHeld2,hT _ (RD.zL _)⟩
   clear hHeld2 hT
   refine wpAnyH_take (i:=5) (oi:=⟨some 11,_,_,_,_,_⟩) (v:=?_) rfl (by kernel_rfl) (by kernel_rfl) (by kernel_rfl) (fun _ _ _ h=>h) (Or.inl ⟨by rfl,?_⟩) (by assumption) ?_
   rotate_left
   ·intro w hSw
    try dsimp only at hSw
    go_simp
    try with_reducible rfl
   try dsimp only
   try simp only [Act.put,List.setIfInBounds_toArray,List.set_cons_zero,List.set_cons_succ]
   refine wpAnyH_take (i:=6) (oi:=⟨some 12,_,_,_,_,_⟩) (v:=?_) rfl (by kernel_rfl) (by kernel_rfl) (by kernel_rfl) (fun _ _ _ h=>h) (Or.inl ⟨by rfl,?_⟩) (by assumption) ?_
   rotate_left
   ·intro w hSw
    try dsimp only at hSw
    go_simp
    try with_reducible rfl
   try dsimp only
   try simp only [Act.put,List.setIfInBounds_toArray,List.set_cons_zero,List.set_cons_succ]
   refine wpAnyH_take (i:=7) (oi:=⟨some 13,_,_,_,_,_⟩) (v:=?_) rfl (by kernel_rfl) (by kernel_rfl) (by kernel_rfl) (fun _ _ _ h=>h) (Or.inl ⟨by rfl,?_⟩) (by assumption) ?_
   rotate_left
   ·intro w hSw
    try dsimp only at hSw
    go_simp
    try with_reducible rfl
   try dsimp only
   try simp only [Act.put,List.setIfInBounds_toArray,List.set_cons_zero,List.set_cons_succ]
   refine wpAnyH_take (i:=10) (oi:=⟨some 16,_,_,_,_,_⟩) (v:=?_) rfl (by kernel_rfl) (by kernel_rfl) (by kernel_rfl) (fun _ _ _ h=>h) (Or.inl ⟨by rfl,?_⟩) (by assumption) ?_
   rotate_left
   ·intro w hSw
    try dsimp only at hSw
    go_simp
    try with_reducible rfl
   try dsimp only
   try simp only [Act.put,List.setIfInBounds_toArray,List.set_cons_zero,List.set_cons_succ]
   refine wpAnyH_take (i:=11) (oi:=⟨some 17,_,_,_,_,_⟩) (v:=?_) rfl (by kernel_rfl) (by kernel_rfl) (by kernel_rfl) (fun _ _ _ h=>h) (Or.inl ⟨by rfl,?_⟩) (by assumption) ?_
   rotate_left
   ·intro w hSw
    try dsimp only at hSw
    go_simp
    try with_reducible rfl
   try dsimp only
   try simp only [Act.put,List.setIfInBounds_toArray,List.set_cons_zero,List.set_cons_succ]
   refine wpAnyH_ready (rs:=[14]) (by kernel_rfl) (by simp) ?_
   refine AllReadyH.cons rfl (fun K hK=>?_) AllReadyH.nil
   go_simp
   go_at_call 190
   with_reducible refine (HX.out _ (G1.out.trans' ((za _ (.cells #[.string ⟨#[115,116,97,116,105,99,32]⟩,.string ⟨#[100,121,110,97,109,105,99,32]⟩,.string ⟨#[117,115,101,114,115,32]⟩] 9)).trans' (zp _)))).mono ?_
   rintro e w5 ⟨t5,rfl,z5,g5⟩
   have G5:=Lib.hid (((za W1 (.cells #[.string ⟨#[115,116,97,116,105,99,32]⟩,.string ⟨#[100,121,110,97,109,105,99,32]⟩,.string ⟨#[117,115,101,114,115,32]⟩] 9)).trans' (zp _)).trans' g5)
   have b3:¬ 9223372036854775807<14+nm.size+2+t5.size:=by omega
   have b4:¬ 9223372036854775807<14+nm.size+2+t5.size+2:=by omega
   have b3':¬ 9223372036854775807<8+6+nm.size+2+t5.size:=by omega
   have b4':¬ 9223372036854775807<8+6+nm.size+2+t5.size+2:=by omega
   go_wp2_with fail
   refine hK.out _ _ ⟨KS.out _ G5.out,HT.out _ g5⟩ (fun hHeld2=>?_)
   clear hK K hHeld
   try simp only [Act.put,List.setIfInBounds_toArray,List.set_cons_zero,List.set_cons_succ]
   refine wpAnyH_take (i:=15) (oi:=⟨some 21,_,_,_,_,_⟩) (v:=?_) rfl (by kernel_rfl) (by kernel_rfl) (by kernel_rfl) (fun _ _ _ h=>h) (Or.inl ⟨by rfl,?_⟩) (by assumption) ?_
   rotate_left
   ·intro w hSw
    try dsimp only at hSw
    go_simp
    try with_reducible rfl
   try dsimp only
   try simp only [Act.put,List.setIfInBounds_toArray,List.set_cons_zero,List.set_cons_succ]
   refine wpAnyH_take (i:=16) (oi:=⟨some 22,_,_,_,_,_⟩) (v:=?_) rfl (by kernel_rfl) (by kernel_rfl) (by kernel_rfl) (fun _ _ _ h=>h) (Or.inl ⟨by rfl,?_⟩) (by assumption) ?_
   rotate_left
   ·intro w hSw
    try dsimp only at hSw
    go_simp
    try with_reducible rfl
   try dsimp only
   try simp only [Act.put,List.setIfInBounds_toArray,List.set_cons_zero,List.set_cons_succ]
   refine wpAnyH_take (i:=17) (oi:=⟨some 2,_,_,_,_,_⟩) (v:=?_) rfl (by kernel_rfl) (by kernel_rfl) (by kernel_rfl) (fun _ _ _ h=>h) (Or.inl ⟨by rfl,?_⟩) (by assumption) ?_
   rotate_left
   ·intro w hSw
    try dsimp only at hSw
    go_simp
    try with_reducible rfl
   try dsimp only
   try simp only [Act.put,List.setIfInBounds_toArray,List.set_cons_zero,List.set_cons_succ]
   refine wpAnyH_done (by kernel_rfl) ?_ _
   try simp only [Act.put,List.setIfInBounds_toArray,List.set_cons_zero,List.set_cons_succ]
   dsimp only [Exit.then]
   go_wp2_with fail
   go_ret
   exact ⟨_,rfl,by simp only [ByteArray.size_append,s1,s2,s3,s4,s5];omega,G1.out.trans' G5.out⟩
  ·go_simp
   go_at_call 190
   with_reducible refine (HX.out _ (G1.out.trans' (zp _))).mono ?_
   rintro e w5 ⟨t5,rfl,z5,g5⟩
   have G5:=Lib.hid ((zp W1).trans' g5)
   have b3:¬ 9223372036854775807<14+nm.size+2+t5.size:=by omega
   have b4:¬ 9223372036854775807<14+nm.size+2+t5.size+2:=by omega
   have b3':¬ 9223372036854775807<8+6+nm.size+2+t5.size:=by omega
   have b4':¬ 9223372036854775807<8+6+nm.size+2+t5.size+2:=by omega
   go_wp2_with fail
   refine hK.out _ _ (KS.out _ G5.out) (fun hHeld2=>?_)
   clear hK K hHeld
   try simp only [Act.put,List.setIfInBounds_toArray,List.set_cons_zero,List.set_cons_succ]
   refine wpAnyH_ready (rs:=[1]) (by kernel_rfl) (by simp) ?_
   refine AllReadyH.cons rfl (fun K hK=>?_) AllReadyH.nil
   go_simp
   refine hK.out _ _ (KS.out _ (G5.out.trans' (za _ _))) (fun hHeld3=>?_)
   clear hK K hHeld2
   try simp only [Act.put,List.setIfInBounds_toArray,List.set_cons_zero,List.set_cons_succ]
   refine jY (S':=(fun wx=>(wx.cell? ⟨w.heap.size,1,none⟩=some (.int .i64 3)∧wx.cell? ⟨w.heap.size,2,none⟩=some (.string nm)∧wx.cell? ⟨w.heap.size,3,none⟩=some (.int .i64 x0)∧wx.cell? ⟨w.heap.size,4,none⟩=some (.int .i64 x1)∧wx.cell? ⟨w.heap.size,5,none⟩=some (.slice q1 k1 l1)∧wx.cell? ⟨w.heap.size,6,none⟩=some (.slice q2 k2 l2))∧wx.cell? ⟨w5.heap.size,2,none⟩=some (.string ⟨#[117,115,101,114,115,32]⟩))) (fun w h=>h.1) _ _ _ _ ?_
   have hHeld:(fun wx=>(wx.cell? ⟨w.heap.size,1,none⟩=some (.int .i64 3)∧wx.cell? ⟨w.heap.size,2,none⟩=some (.string nm)∧wx.cell? ⟨w.heap.size,3,none⟩=some (.int .i64 x0)∧wx.cell? ⟨w.heap.size,4,none⟩=some (.int .i64 x1)∧wx.cell? ⟨w.heap.size,5,none⟩=some (.slice q1 k1 l1)∧wx.cell? ⟨w.heap.size,6,none⟩=some (.slice q2 k2 l2))∧wx.cell? ⟨w5.heap.size,2,none⟩=some (.string ⟨#[117,115,101,114,115,32]⟩)) (w5.alloc (.cells #[.string ⟨#[115,116,97,116,105,99,32]⟩,.string ⟨#[100,121,110,97,109,105,99,32]⟩,.string ⟨#[117,115,101,114,115,32]⟩] 9)):=⟨hHeld3,(zc (k:=2) (zn w5 (z:=#[.string ⟨#[115,116,97,116,105,99,32]⟩,.string ⟨#[100,121,110,97,109,105,99,32]⟩,.string ⟨#[117,115,101,114,115,32]⟩]) (t:=9)) rfl).1⟩
   clear hHeld3
   refine wpAnyH_take (i:=5) (oi:=⟨some 11,_,_,_,_,_⟩) (v:=?_) rfl (by kernel_rfl) (by kernel_rfl) (by kernel_rfl) (fun _ _ _ h=>h) (Or.inl ⟨by rfl,?_⟩) (by assumption) ?_
   rotate_left
   ·intro w hSw
    try dsimp only at hSw
    go_simp
    try with_reducible rfl
   try dsimp only
   try simp only [Act.put,List.setIfInBounds_toArray,List.set_cons_zero,List.set_cons_succ]
   refine wpAnyH_take (i:=6) (oi:=⟨some 12,_,_,_,_,_⟩) (v:=?_) rfl (by kernel_rfl) (by kernel_rfl) (by kernel_rfl) (fun _ _ _ h=>h) (Or.inl ⟨by rfl,?_⟩) (by assumption) ?_
   rotate_left
   ·intro w hSw
    try dsimp only at hSw
    go_simp
    try with_reducible rfl
   try dsimp only
   try simp only [Act.put,List.setIfInBounds_toArray,List.set_cons_zero,List.set_cons_succ]
   refine wpAnyH_take (i:=7) (oi:=⟨some 13,_,_,_,_,_⟩) (v:=?_) rfl (by kernel_rfl) (by kernel_rfl) (by kernel_rfl) (fun _ _ _ h=>h) (Or.inl ⟨by rfl,?_⟩) (by assumption) ?_
   rotate_left
   ·intro w hSw
    try dsimp only at hSw
    go_simp
    try with_reducible rfl
   try dsimp only
   try simp only [Act.put,List.setIfInBounds_toArray,List.set_cons_zero,List.set_cons_succ]
   refine wpAnyH_take (i:=10) (oi:=⟨some 16,_,_,_,_,_⟩) (v:=?_) rfl (by kernel_rfl) (by kernel_rfl) (by kernel_rfl) (fun _ _ _ h=>h) (Or.inl ⟨by rfl,?_⟩) (by assumption) ?_
   rotate_left
   ·intro w hSw
    try dsimp only at hSw
    go_simp
    try with_reducible rfl
   try dsimp only
   try simp only [Act.put,List.setIfInBounds_toArray,List.set_cons_zero,List.set_cons_succ]
   refine wpAnyH_take (i:=11) (oi:=⟨some 17,_,_,_,_,_⟩) (v:=?_) rfl (by kernel_rfl) (by kernel_rfl) (by kernel_rfl) (fun _ _ _ h=>h) (Or.inl ⟨by rfl,?_⟩) (by assumption) ?_
   rotate_left
   ·intro w hSw
    try dsimp only at hSw
    go_simp
    try with_reducible rfl
   try dsimp only
   try simp only [Act.put,List.setIfInBounds_toArray,List.set_cons_zero,List.set_cons_succ]
   refine wpAnyH_take (i:=15) (oi:=⟨some 21,_,_,_,_,_⟩) (v:=?_) rfl (by kernel_rfl) (by kernel_rfl) (by kernel_rfl) (fun _ _ _ h=>h) (Or.inl ⟨by rfl,?_⟩) (by assumption) ?_
   rotate_left
   ·intro w hSw
    try dsimp only at hSw
    go_simp
    try with_reducible rfl
   try dsimp only
   try simp only [Act.put,List.setIfInBounds_toArray,List.set_cons_zero,List.set_cons_succ]
   refine wpAnyH_take (i:=16) (oi:=⟨some 22,_,_,_,_,_⟩) (v:=?_) rfl (by kernel_rfl) (by kernel_rfl) (by kernel_rfl) (fun _ _ _ h=>h) (Or.inl ⟨by rfl,?_⟩) (by assumption) ?_
   rotate_left
   ·intro w hSw
    try dsimp only at hSw
    go_simp
    try with_reducible rfl
   try dsimp only
   try simp only [Act.put,List.setIfInBounds_toArray,List.set_cons_zero,List.set_cons_succ]
   refine wpAnyH_take (i:=17) (oi:=⟨some 2,_,_,_,_,_⟩) (v:=?_) rfl (by kernel_rfl) (by kernel_rfl) (by kernel_rfl) (fun _ _ _ h=>h) (Or.inl ⟨by rfl,?_⟩) (by assumption) ?_
   rotate_left
   ·intro w hSw
    try dsimp only at hSw
    go_simp
    try with_reducible rfl
   try dsimp only
   try simp only [Act.put,List.setIfInBounds_toArray,List.set_cons_zero,List.set_cons_succ]
   refine wpAnyH_done (by kernel_rfl) ?_ _
   try simp only [Act.put,List.setIfInBounds_toArray,List.set_cons_zero,List.set_cons_succ]
   dsimp only [Exit.then]
   go_wp2_with fail
   go_ret
   exact ⟨_,rfl,by simp only [ByteArray.size_append,s1,s2,s3,s4,s5];omega,G1.out.trans' (G5.out.trans' (za _ _))⟩
)
end MK
end Go.AEv
namespace Go.AEv
section
open Go Go.Proofs TR
namespace MK
open Go.AEv.GT (zO qq)
def IsC (lo d:Nat) (w:World) (x:List Value):Prop:=∃ (enf:Bool) (k:Int) (nm:ByteArray) (x0 x1:Int) (q1:Option Addr) (k1 l1:Nat) (q2:Option Addr) (k2 l2:Nat),x=[.bool enf,.int .i64 k,.string nm,.int .i64 x0,.int .i64 x1,.slice q1 k1 l1,.slice q2 k2 l2]∧1≤k∧k≤3∧nm.size≤12∧FE lo d w (.agg #[.int .i64 x0,.int .i64 x1,.slice q1 k1 l1,.slice q2 k2 l2])
theorem Kh {lo d:Nat} (hd:d≤8) {w wx:World}{enf:Bool}{k:Int}{nm:ByteArray}{x0 x1:Int}{q1 q2:Option Addr}{k1 l1 k2 l2:Nat} (g:Grown w wx) (h1:1≤k) (h3:k≤3) (hn:nm.size≤12) (h:FE lo d w (.agg #[.int .i64 x0,.int .i64 x1,.slice q1 k1 l1,.slice q2 k2 l2])) :
  Calls Tryz.prog 125 #[.agg #[.bool enf,.int .i64 k,.string nm,.int .i64 x0,.int .i64 x1,.slice q1 k1 l1,.slice q2 k2 l2]] wx (jW (Dn d+40) wx):=by
 have hD:Dn d≤10000000:=Nat.le_trans (ej hd) (by decide)
 have T:TxT (Dn d) wx (.agg #[.int .i64 x0,.int .i64 x1,.slice q1 k1 l1,.slice q2 k2 l2]):=fun wy gy=>Uw d hd (h.qA d (zU (g.trans' gy)))
 have:k=1∨k=2∨k=3:=by omega
 rcases this with rfl | rfl | rfl
 ·exact xX hD hn T
 ·exact xW hD hn T
 ·exact xV hD hn T
theorem wv:∀ (ch:List (List Value)) {j i:Nat}{x:List Value},(∀ a∈ch,a.length=7)→ch[j]? = some x→i<7→ch.flatten[j*7+i]? = x[i]?
 | [],j,i,x,_,h,_=>by simp at h
 | y::ch,0,i,x,hl,h,hi=>by
  simp at h
  subst h
  rw [List.flatten_cons,Nat.zero_mul,Nat.zero_add,List.getElem?_append_left (by rw [hl y List.mem_cons_self];exact hi)]
 | y::ch,j+1,i,x,hl,h,hi=>by
  have hy:=hl y List.mem_cons_self
  rw [List.flatten_cons,List.getElem?_append_right (by rw [hy];omega),hy,show (j+1)*7+i-7=j*7+i by omega]
  exact wv ch (fun a m=>hl a (List.mem_cons_of_mem _ m)) (by simpa using h) hi
theorem sQ {lo d:Nat}{w wx:World}{p:Option Addr}{ch:List (List Value)} (hc:Cs wx p ch.flatten) (hs:∀ a∈ch,IsC lo d w a) {j:Nat} (hj:j<ch.length) :
  ∃ (b o:Nat) (enf:Bool) (k:Int) (nm:ByteArray) (x0 x1:Int) (q1:Option Addr) (k1 l1:Nat) (q2:Option Addr) (k2 l2:Nat),p=some ⟨b,o,none⟩∧(wx.cell? ⟨b,o+j*7,none⟩=some (.bool enf)∧wx.cell? ⟨b,o+j*7+1,none⟩=some (.int .i64 k)∧wx.cell? ⟨b,o+j*7+2,none⟩=some (.string nm)∧wx.cell? ⟨b,o+j*7+3,none⟩=some (.int .i64 x0)∧wx.cell? ⟨b,o+j*7+4,none⟩=some (.int .i64 x1)∧wx.cell? ⟨b,o+j*7+5,none⟩=some (.slice q1 k1 l1)∧wx.cell? ⟨b,o+j*7+6,none⟩=some (.slice q2 k2 l2))∧1≤k∧k≤3∧nm.size≤12∧FE lo d w (.agg #[.int .i64 x0,.int .i64 x1,.slice q1 k1 l1,.slice q2 k2 l2]):=by
 have hx:=List.getElem?_eq_getElem hj
 obtain ⟨enf,k,nm,x0,x1,q1,k1,l1,q2,k2,l2,e,h1,h3,hn,ft⟩:=hs _ (List.getElem_mem hj)
 have hl:∀ a∈ch,a.length=7:=fun a m=>by obtain ⟨_,_,_,_,_,_,_,_,_,_,_,e,_⟩:=hs a m;rw [e];rfl
 have g:∀ i,i<7→ch.flatten[j*7+i]? = [Value.bool enf,.int .i64 k,.string nm,.int .i64 x0,.int .i64 x1,.slice q1 k1 l1,.slice q2 k2 l2][i]?:=fun i hi=>by rw [wv ch hl hx hi,e]
 have g0:ch.flatten[j*7]? = _:=g 0 (by decide)
 obtain ⟨b,o,rfl,hcc⟩:=hc fun e=>by rw [e]at g0;cases g0
 exact ⟨b,o,enf,k,nm,x0,x1,q1,k1,l1,q2,k2,l2,rfl,⟨hcc _ _ g0,hcc _ _ (g 1 (by decide)),hcc _ _ (g 2 (by decide)),hcc _ _ (g 3 (by decide)),hcc _ _ (g 4 (by decide)),hcc _ _ (g 5 (by decide)),hcc _ _ (g 6 (by decide))⟩,h1,h3,hn,ft⟩
theorem ek {lo n c:Nat}{w:World}{p:Option Addr}{vs:List Value} (h:zO 9 1 lo w (.slice p n c) n vs):Cs w p vs∧vs.length=n:=by
 obtain ⟨p',c',e,_,hc,_⟩:=ju h
 cases e
 exact ⟨hc,by rw [h.len,Nat.mul_one]⟩
def CkL (w:World) (M n g:Nat) (bs ro i:Value) (wx:World):Prop:=Grown w wx∧∃ (j b:Nat) (ns:List Value),j+g=n∧i = .int .i64 j∧bs = .int .i64 b∧b≤j*M∧zO 9 1 w.heap.size wx ro j ns∧∀ u∈ns,∃ x,u=Value.string x
theorem bQ {lo d : Nat} (hd : d ≤ 8) {w : World} {p : Option Addr} {n c : Nat} {ch : List (List Value)} (hc : Cs w p ch.flatten) (hs : ∀ a ∈ ch, IsC lo d w a) (hn : ch.length = n) (few : n ≤ 2) : Calls Tryz.prog 124 #[.slice p n c] w (Zg 100 w) := by
  have C2 := Lib.hid hc
  have HSB := Lib.hid hs
  have a1 : ¬ (32 : Int) < n := by omega
  obtain ⟨M, hM⟩ : ∃ M, M = Dn d + 40 := ⟨_, rfl⟩
  have hM1 : M ≤ 10000040 := by rw [hM]; have : Dn d ≤ 10000000 := Nat.le_trans (ej hd) (by decide); omega
  have HMM := Lib.hid hM
  clear hc hs hM
  go_enter Tryz.func124, Tryz.ntmps124
  go_wp2_with fail
  go_loopg [3, 4, 13] n (fun g bs ro i wx => CkL w M n g bs ro i wx)
  case atStart => exact ⟨RD.zL _, 0, 0, [], by omega, rfl, rfl, Nat.zero_le _, ⟨rfl, .inl ⟨rfl, rfl⟩⟩, fun u m => by cases m⟩
  case round =>
    obtain ⟨hg, j, b, ns, hj, rfl, rfl, hb, hro, hns⟩ := hrel
    have HG := Lib.hid hg
    have RO := Lib.hid hro
    have NS := Lib.hid hns
    have hbM : b ≤ 20000080 := by
      have : j * M ≤ 2 * M := Nat.mul_le_mul_right _ (by omega)
      omega
    have HB := Lib.hid hb
    obtain ⟨q4, c4, rfl, _, _, _⟩ := ju hro
    clear hg hro hns hb
    cases gk with
    | succ g =>
      have hjlt : (j : Int) < n := by omega
      have hjn : j < ch.length := by omega
      obtain ⟨b2, o2, enf, k, nm, z0, z1, q1, k1, l1, q2, k2, l2, rfl, ⟨x0, x1, x2, x3, x4, x5, x6⟩, hk1, hk3, hnm, hft⟩ := sQ (C2.out.grown HG.out) HSB.out hjn
      have FX := Lib.hid hft
      have b1 : ¬ k < 1 := by omega
      have b3 : ¬ 3 < k := by omega
      have few2 : RowKit.Hid (j + 1 ≤ 100000) := Lib.hid (by omega)
      clear hft
      go_wp2_with (first
        | (go_at_call 134; (with_reducible refine (Qv (by omega)).mono ?_); rintro e w2 ⟨bb, rfl, g2⟩; have G2 := Lib.hid ((HG.out.trans' (za _ _)).trans' g2); have B2 := Lib.hid (zk g2 (zn wr (z := #[.bool enf, .int .i64 k, .string nm, .int .i64 z0, .int .i64 z1, .slice q1 k1 l1, .slice q2 k2 l2]) (t := 160))); have RO2 := Lib.hid ((RO.out.grown (za _ _)).grown g2); obtain ⟨y0, y1, y2, y3, y4, y5, y6⟩ := aP B2.out; have y2a := fun ob => RD.ze y2 (za w2 ob); clear g2)
        | (go_at_call 189; (with_reducible refine (Zb (ek RO2.out).1 (ek RO2.out).2 NS.out (by omega)).mono ?_); rintro e w3 ⟨kk, rfl, rfl⟩)
        | (at_builtin; refine GT.Ve _ GT.tyT _ _ rfl rfl (RO2.out.grown (za _ _)) few2.out Nat.one_pos (G2.out.trans' (za _ _)).size rfl (us := [.string nm]) rfl (aw (RD.zL _)) (fun u hu => by rw [List.mem_singleton.1 hu]; rfl) ?_; intro v' w4 k1 k2 k3; have R4 := Lib.hid k1; have G4 := Lib.hid (GT.jq (G2.out.trans' (za _ _)) (RO2.out.grown (za _ _)) k3); have B4 := Lib.hid (qO (zk (za _ _) B2.out) k3 (RO2.out.grown (za _ _)) (by decide)); clear k1 k2 k3 y0 y1 y2 y3 y4 y5 y6 y2a; obtain ⟨y0, y1, y2, y3, y4, y5, y6⟩ := aP B4.out)
        | (go_at_call 122; (with_reducible refine (WU (by omega) (FX.out.qA d (zU G4.out))).mono ?_); rintro e w5 ⟨q5, rfl, hq5, g5⟩; have G5 := Lib.hid (G4.out.trans' g5); have R5 := Lib.hid (R4.out.grown g5); have B5 := Lib.hid (zk g5 B4.out); clear g5 y0 y1 y2 y3 y4 y5 y6; obtain ⟨y0, y1, y2, y3, y4, y5, y6⟩ := aP B5.out)
        | (go_at_call 125; (with_reducible refine (Kh hd G5.out hk1 hk3 hnm FX.out).mono ?_); rintro e w6 ⟨s6, rfl, z6, g6⟩; have G6 := Lib.hid (G5.out.trans' g6); have R6 := Lib.hid (R5.out.grown g6); rw [← HMM.out] at z6; clear g6))
      all_goals first
        | (go_ret; exact ⟨9, rfl, by decide, G2.out⟩)
        | (go_ret; exact ⟨5, rfl, by decide, G2.out⟩)
        | (go_ret; exact ⟨q5, rfl, hq5, G5.out⟩)
        | (go_roundg g
           case measure => omega
           case rel => exact ⟨G6.out, j + 1, b + s6.size, ns ++ [.string nm], by omega, rfl, rfl, by have := HB.out; rw [Nat.add_mul]; omega, R6.out, fun u m => by
            rcases List.mem_append.1 m with m | m
            · exact NS.out u m
            · rw [List.mem_singleton.1 m]; exact ⟨nm, rfl⟩⟩)
    | zero =>
      have hjlt : ¬ (j : Int) < n := by omega
      go_wp2_with fail
      all_goals first
        | (go_ret; exact ⟨3, rfl, by decide, HG.out⟩)
        | (go_ret; exact ⟨0, rfl, by decide, HG.out⟩)
theorem QF {lo d:Nat} (hd:d≤8) {w:World}{p:Option Addr}{n c:Nat}{ch:List (List Value)} (hc:Cs w p ch.flatten) (hs:∀ a∈ch,IsC lo d w a) (hn:ch.length=n) (few:n≤2):Calls Tryz.prog 77 #[.slice p n c] w (jW (2*(Dn d+40)) w):=by
 have C2:=Lib.hid hc
 have HSB:=Lib.hid hs
 have HN:=Lib.hid hn
 obtain ⟨M,hM⟩:∃ M,M=Dn d+40:=⟨_,rfl⟩
 have hM1:M≤10000040:=by rw [hM];have:Dn d≤10000000:=Nat.le_trans (ej hd) (by decide);omega
 rw [← hM]
 have HMM:=Lib.hid hM
 clear hc hs hM
 go_enter Tryz.func77,Tryz.ntmps77
 go_wp2_with (first
  | (go_at_call 124;(with_reducible refine (bQ hd C2.out HSB.out HN.out few).mono ?_);rintro e w2 ⟨q,rfl,hq,g2⟩;have G2:=Lib.hid g2;clear g2))
 ·go_ret
  exact ⟨_,rfl,Nat.zero_le _,G2.out⟩
 ·obtain rfl:q=0:=by first | omega | (simp at *;omega)
  go_loopg [3,11] n (fun g s i wx=>Grown w wx∧∃ (j:Nat) (t:ByteArray),j+g=n∧i = .int .i64 j∧s = .string t∧t.size≤j*M)
  case atStart=>exact ⟨G2.out,0,⟨#[]⟩,by omega,rfl,rfl,Nat.zero_le _⟩
  case round=>
   obtain ⟨hg,j,t,hj,rfl,rfl,ht⟩:=hrel
   have HG:=Lib.hid hg
   have HT:=Lib.hid ht
   have ht2:t.size≤20000080:=by
    have:j*M≤2*M:=Nat.mul_le_mul_right _ (by omega)
    omega
   clear hg ht
   cases gk with
   | succ g=>
    have hjlt:(j:Int)<n:=by omega
    have hjn:j<ch.length:=by omega
    obtain ⟨b2,o2,enf,k,nm,z0,z1,q1,k1,l1,q2,k2,l2,rfl,⟨x0,x1,x2,x3,x4,x5,x6⟩,hk1,hk3,hnm,hft⟩:=sQ (C2.out.grown HG.out) HSB.out hjn
    have FX:=Lib.hid hft
    clear hft
    go_wp2_with (first
     | (go_at_call 125;(with_reducible refine (Kh hd (HG.out.trans' (za _ _)) hk1 hk3 hnm FX.out).mono ?_);rintro e w6 ⟨s6,rfl,z6,g6⟩;have G6:=Lib.hid ((HG.out.trans' (za _ _)).trans' g6);rw [← HMM.out]at z6;clear g6))
    go_roundg g
    case measure=>omega
    case rel=>exact ⟨G6.out,j+1,_,by omega,rfl,rfl,by have:=HT.out;rw [ByteArray.size_append,Nat.add_mul];omega⟩
   | zero=>
    have hjlt:¬ (j:Int)<n:=by omega
    go_wp2_with fail
    go_ret
    exact ⟨t,rfl,by
     have:=HT.out
     have:j*M≤2*M:=Nat.mul_le_mul_right _ (by omega)
     omega,HG.out⟩
end MK
end
section
open Go Go.Proofs TR
namespace MK
open Go.AEv.GT (zO qq)
def Gs (d:Nat) (w:World) (e:Ending) (w2:World):Prop:=∃ (x0 x1:Int) (q1:Option Addr) (k1 l1:Nat) (q2:Option Addr) (k2 l2 k:Nat),e = .returned (.tuple #[.agg #[.int .i64 x0,.int .i64 x1,.slice q1 k1 l1,.slice q2 k2 l2],.int .i64 k])∧k≤100∧(k=0→FE w.heap.size d w2 (.agg #[.int .i64 x0,.int .i64 x1,.slice q1 k1 l1,.slice q2 k2 l2]))∧Grown w w2
theorem Kt {w wx:World}{R:Nat}{v0 v1 v2 v3:Value} (g:Grown w wx) (hR:w.heap.size≤R):Grown w (km wx R v0 v1 v2 v3):=by
 unfold km
 exact qB (qB (qB (qB g hR) hR) hR) hR
theorem Wq {lo d:Nat} (hd:d≤8) {w:World}{p:Option Addr}{c:Nat}{ss:List ByteArray}{v:Value} (h:FI lo d w v) (hS:Jb w p 4 ss):Calls Tryz.prog 75 #[v,.slice p 4 c] w (Gs d w):=by
 obtain ⟨op,n,p1,n1,c1,p2,n2,c2,rfl⟩:=h.form
 have g0:Grown w ((w.alloc (.cells #[.int .i64 op,.int .i64 n,.slice p1 n1 c1,.slice p2 n2 c2] 157)).alloc (.cells #[.int .i64 0,.int .i64 0,.slice none 0 0,.slice none 0 0] 152)):=(za _ _).trans' (za _ _)
 have HI:=Lib.hid (h.qA d (zU g0))
 have HS:=Lib.hid (hS.grown g0)
 have G0:=Lib.hid g0
 have R0:=Lib.hid (jS (w:=w.alloc (.cells #[.int .i64 op,.int .i64 n,.slice p1 n1 c1,.slice p2 n2 c2] 157)) (z:=#[.int .i64 0,.int .i64 0,.slice none 0 0,.slice none 0 0]) (t:=152) (b:=w.heap.size+1) (by rw [zQ]))
 clear h hS g0
 go_enter Tryz.func75,Tryz.ntmps75
 go_wp2_with (first
  | (go_at_call 121;(with_reducible refine (Ka d HI.out HS.out).mono ?_);rintro e w3 ⟨v3,rfl,ft3,g3⟩;obtain ⟨y0,y1,r1,i1,d1,r2,i2,d2,rfl⟩:=FT.form ft3;have F3:=Lib.hid ((ft3.qA d (zU (za w3 (.cells #[.int .i64 y0,.int .i64 y1,.slice r1 i1 d1,.slice r2 i2 d2] 152)))).lower (lo':=w.heap.size+2) (by rw [zQ,zQ];exact Nat.le_refl _) d);have G3:=Lib.hid ((G0.out.trans' g3).trans' (za w3 (.cells #[.int .i64 y0,.int .i64 y1,.slice r1 i1 d1,.slice r2 i2 d2] 152)));have R3:=Lib.hid (zk (g3.trans' (za w3 (.cells #[.int .i64 y0,.int .i64 y1,.slice r1 i1 d1,.slice r2 i2 d2] 152))) R0.out);have B3:=Lib.hid (zn w3 (z:=#[.int .i64 y0,.int .i64 y1,.slice r1 i1 d1,.slice r2 i2 d2]) (t:=152));clear ft3 g3)
  | (go_at_call 122;(with_reducible refine (WU (by omega) F3.out).mono ?_);rintro e w5 ⟨q5,rfl,hq5,g5⟩;have G5:=Lib.hid (G3.out.trans' g5);have R5:=Lib.hid (zk g5 R3.out);have B5:=Lib.hid (zk g5 B3.out);have F5:=Lib.hid (F3.out.qA d (zU g5));clear g5;obtain ⟨⟨a0,a1,a2,a3⟩,b0,b1,b2,b3⟩:=qG R5.out;obtain ⟨⟨e0,e1,e2,e3⟩,_⟩:=qG B5.out))
 ·refine bodyPost_ret (qH (p:=4) (ty:=152) rfl _ _ (w.heap.size+1) _ _ rfl (zS (XJ R5.out)) under152 rfl bt) rfl ?_
  exact ⟨0,0,none,0,0,none,0,0,q5,rfl,hq5,fun h=>by (first | omega | (simp at *;omega)),Kt G5.out (by omega)⟩
 ·refine bodyPost_ret (qH (p:=4) (ty:=152) rfl _ _ (w.heap.size+1) _ _ rfl (zS (XJ R5.out)) under152 rfl bt) rfl ?_
  exact ⟨y0,y1,r1,i1,d1,r2,i2,d2,0,rfl,by decide,fun _=>(F5.out.qA d (fun c hc hl=>qp (by omega))).lower (by omega) d,Kt G5.out (by omega)⟩
end MK
end
end Go.AEv
