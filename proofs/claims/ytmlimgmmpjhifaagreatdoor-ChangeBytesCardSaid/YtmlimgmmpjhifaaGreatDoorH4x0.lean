/- The text of constraints out of bytes. Conditions: the bytes lie in memory. -/
import Derived.Test.YtmlimgmmpjhifaaGreatDoorL4a
set_option maxHeartbeats 8000000
set_option maxRecDepth 100000
set_option linter.all false
namespace Go.AEv
section
open Go Go.Proofs TR
namespace MK
open Go.AEv.GT (zO qq)
attribute [local go_sem ↓] Go.wp_at_zero Go.wp_at_succ
theorem vE:GT.Ty1 148 160 7:=⟨by kernel_rfl,by kernel_rfl,by kernel_rfl,by kernel_rfl,by kernel_rfl,by decide⟩
theorem ByL.drop {w:World}{b o n:Nat}{L:List Nat} (k:Nat) (h:ByL w (some ⟨b,o,none⟩) n L):ByL w (some ⟨b,o+k,none⟩) (n-k) (L.drop k):=by
 refine ⟨fun hn=>⟨b,o+k,rfl,fun j u hj=>?_⟩,by rw [List.length_drop,h.len],Nat.le_trans (Nat.sub_le _ _) h.few,fun x m=>h.lt x (List.mem_of_mem_drop m)⟩
 rw [List.getElem?_map,List.getElem?_drop]at hj
 have hu:(L.map fun x=>Value.int .u8 (x:Nat))[k+j]? = some u:=by rw [List.getElem?_map];exact hj
 obtain ⟨b',o',e,hc⟩:=h.cs (fun e=>by rw [e]at hu;cases hu)
 cases e
 rw [Nat.add_assoc]
 exact hc _ _ hu
theorem ByL.blk {w:World}{b o n:Nat}{L:List Nat} (h:ByL w (some ⟨b,o,none⟩) n L) (hn:0<n):b<w.heap.size:=by
 obtain ⟨b',o',e,hc⟩:=h.at hn
 cases e
 exact World.block_lt_of_cell? w _ hc
theorem FE.wrote {lo l2 n2 sz:Nat}{et:TypeId}{w w2:World}{ao:Value}{us:List Value} (k:qF ao w w2) (hv:zO et sz l2 w ao n2 us) (h9:9≠et) (h152:152≠et):∀ (d:Nat) {v:Value},FE lo d w v→FE lo d w2 v
 | 0,_,h=>h.elim
 | d+1,v,h=>by
  obtain ⟨op,n,rv,av,rs,ch,e,hf,hr,hk,ha,hs⟩:=h
  exact ⟨op,n,rv,av,rs,ch,e,hf,YM hr k hv h9,hk,YM ha k hv h152,fun a m=>⟨(hs a m).1,FE.wrote k hv h9 h152 d (hs a m).2⟩⟩
theorem IsC.wrote {lo l2 n2 d:Nat}{w w2:World}{ao:Value}{us x:List Value} (k:qF ao w w2) (hv:zO 160 7 l2 w ao n2 us) (h:IsC lo d w x):IsC lo d w2 x:=by
 obtain ⟨enf,kk,nm,x0,x1,q1,k1,l1,q2,k2,l2,e,h1,h3,hn,ft⟩:=h
 exact ⟨enf,kk,nm,x0,x1,q1,k1,l1,q2,k2,l2,e,h1,h3,hn,FE.wrote k hv (by decide) (by decide) d ft⟩
theorem IsC.grown {lo d:Nat}{w w2:World}{x:List Value} (g:Grown w w2) (h:IsC lo d w x):IsC lo d w2 x:=by
 obtain ⟨enf,kk,nm,x0,x1,q1,k1,l1,q2,k2,l2,e,h1,h3,hn,ft⟩:=h
 exact ⟨enf,kk,nm,x0,x1,q1,k1,l1,q2,k2,l2,e,h1,h3,hn,ft.qA d (zU g)⟩
structure CoL (w wx:World) (ao:Value) (ch:List (List Value)):Prop where
 g:Grown w wx
 row:zO 160 7 w.heap.size wx ao ch.length ch.flatten
 ok:∀ a∈ch,IsC w.heap.size 4 wx a
theorem CoL.grown {w wx wy:World}{ao:Value}{ch:List (List Value)} (h:CoL w wx ao ch) (g:Grown wx wy):CoL w wy ao ch:=⟨h.g.trans' g,h.row.grown g,fun a m=>(h.ok a m).grown g⟩
theorem CoL.push {w wx wy:World}{ao v':Value}{ch:List (List Value)}{y:List Value}{n:Nat} (h:CoL w wx ao ch) (hn:n=ch.length+1) (r:zO 160 7 w.heap.size wy v' n (ch.flatten++y)) (k:qF ao wx wy) (hy:IsC w.heap.size 4 wx y):CoL w wy v' (ch++[y]):=by
 subst hn
 refine ⟨GT.jq h.g h.row k,?_,fun a m=>?_⟩
 ·rw [List.length_append,List.flatten_append]
  have:[y].flatten=y:=by simp
  rw [this]
  exact r
 ·rcases List.mem_append.1 m with m | m
  ·exact (h.ok a m).wrote k h.row
  ·rw [List.mem_singleton.1 m];exact hy.wrote k h.row
theorem lY {lo d:Nat}{w:World}{b:Bool}{k:Int}{nm:ByteArray}{x0 x1:Int}{q1 q2:Option Addr}{k1 l1 k2 l2:Nat} (h1:1≤k) (h3:k≤3) (hn:nm.size≤12) (h:FE lo d w (.agg #[.int .i64 x0,.int .i64 x1,.slice q1 k1 l1,.slice q2 k2 l2])):IsC lo d w [.bool b,.int .i64 k,.string nm,.int .i64 x0,.int .i64 x1,.slice q1 k1 l1,.slice q2 k2 l2]:=
 ⟨b,k,nm,x0,x1,q1,k1,l1,q2,k2,l2,rfl,h1,h3,hn,h⟩
theorem Wc {w w2:World}{v0 v1 v2 v3 v4 v5 v6:Value}{t:TypeId} (g:Grown (w.alloc (.cells #[v0,v1,v2,v3,v4,v5,v6] t)) w2):∀ j u,[v0,v1,v2,v3,v4,v5,v6][j]? = some u→w2.cell? ((⟨w.heap.size,0,none⟩:Addr).add j)=some u:=fun j u hj=>by
 have h:=TR.cell_of_row (zk g (zn w (z:=#[v0,v1,v2,v3,v4,v5,v6]) (t:=t))) hj
 rw [Addr.add_lit]
 exact h
def CnL (w:World) (g:Nat) (l i:Value) (wx:World):Prop:=∃ (j:Nat) (ch:List (List Value)),j+g=2∧i = .int .i64 j∧CoL w wx l ch∧ch.length≤j
theorem Ql {w:World}{s:ByteArray}{i:Int}{n:Nat} (hi:i=(n:Int)) (hs:s.size≤5) (few:n≤9):Calls Tryz.prog 26 #[.string s,.int .i64 i] w (tD n w):=by
 subst hi
 exact fX hs few
theorem KH {et:TypeId}{sz lo n c:Nat}{w:World}{p:Option Addr}{vs:List Value} (h:zO et sz lo w (.slice p n c) n vs):Cs w p vs:=by
 obtain ⟨p',c',e,_,hc,_⟩:=ju h
 cases e
 exact hc
theorem X9 {w:World}{p:Option Addr}{n c:Nat}{L:List Nat} (h:ByL w p n L) (hcap:n≤c):Calls Tryz.prog 27 #[.slice p n c] w (jW 4000 w):=by
 have HB:=Lib.hid h
 have FEW:=h.few
 clear h
 go_enter Tryz.func27,Tryz.ntmps27
 go_wp2_with fail
 go_loopg [3,4] 2 (fun g l i wx=>CnL w g l i wx)
 case atStart=>exact ⟨0,[],rfl,rfl,⟨RD.zL _,⟨rfl,.inl ⟨rfl,rfl⟩⟩,fun a m=>(by cases m)⟩,Nat.zero_le _⟩
 case round=>
  obtain ⟨j,ch,hj,hi,hco,hl⟩:=hrel
  have CO:=Lib.hid hco
  obtain ⟨q4,c4,rfl,_,_,_⟩:=ju hco.row
  clear hco
  cases gk with
  | succ g=>
   have hj01:(j=0∧g=1)∨(j=1∧g=0):=by omega
   rcases hj01 with ⟨rfl,rfl⟩ | ⟨rfl,rfl⟩
   ·have hi':_=Value.int .i64 0:=hi
    subst hi'
    by_cases hjn:0<n
    ·have h8n:(0:Int)<n:=by omega
     have h8m:(0:Int)≤n:=by omega
     have h8c:(0:Int)≤c:=by omega
     have hncI:(n:Int)≤c:=by omega
     have hn0:(0:Int)<((n-0:Nat):Int):=by omega
     obtain ⟨b,o,rfl,hcw⟩:=HB.out.at hjn
     have hbl:=ByL.blk HB.out (by omega)
     have BY:=Lib.hid (HB.out.grown CO.out.g)
     have hx8:=HB.out.KQ ((0:Nat):Int)
     have HBL:=Lib.hid (show ∀ a,some (⟨b,o,none⟩:Addr)=some a→a.block<wr.heap.size from fun a e=>by cases e;exact Nat.lt_of_lt_of_le hbl CO.out.g.size)
     obtain ⟨x,hx⟩:∃ x,x=atV L ((0:Nat):Int):=⟨_,rfl⟩
     rw [← hx]at hcw hx8
     clear hx
     rw [Nat.add_zero]at hcw
     have hcl:=RD.ze hcw CO.out.g
     have BYC:=Lib.hid hcw
     clear hcw
     go_wp2_with (first
      | (go_at_call 76;(with_reducible refine (U0 BY.out HBL.out).mono ?_);rintro e w2 ⟨v2,rfl,ft2,g2⟩;obtain ⟨u0,u1,p1,n1,c1,p2,n2,c2,rfl⟩:=FT.form ft2;have F2:=Lib.hid ft2;have CO2:=Lib.hid (CO.out.grown g2);clear g2 ft2)
      | (go_at_call 26;(with_reducible refine (Ql (s:=⟨#[114]⟩) (n:=4) (i:=4) rfl (by decide) (by decide)).mono ?_);rintro e w3 ⟨v3,ss,rfl,hst,hsl,g3⟩;obtain ⟨p3,c3,rfl,hsl2⟩:=hst.ph (by omega);have F3:=Lib.hid (F2.out.qA 4 (zU g3));have CO3:=Lib.hid (CO2.out.grown g3);rw [hsl];rw [hsl]at hsl2;have SL:=Lib.hid hsl2;clear g3 hst hsl2)
      | (go_at_call 75;(with_reducible refine (Wq (by decide) F3.out SL.out).mono ?_);rintro e w5 ⟨x0,x1,q1,k1,l1,q2,k2,l2,q5,rfl,hq5,hfe,g5⟩;have CO5:=Lib.hid (CO3.out.grown g5);have FE5:=Lib.hid hfe;clear g5 hfe))
     ·obtain rfl:q5=0:=by first | omega | (simp at *;omega)
      obtain ⟨W7,hW7⟩:∃ W7,W7=w5.alloc (.cells #[.int .i64 x0,.int .i64 x1,.slice q1 k1 l1,.slice q2 k2 l2] 152):=⟨_,rfl⟩
      have g7:Grown w5 W7:=by rw [hW7];exact za _ _
      have B7:zx Tryz.prog W7 (w5.heap.size,0,0) 152 [.int .i64 x0,.int .i64 x1,.slice q1 k1 l1,.slice q2 k2 l2]:=by rw [hW7];exact zn w5
      have CO7:=Lib.hid (CO5.out.grown g7)
      have FE7:=Lib.hid (((FE5.out rfl).qA 4 (zU g7)).lower (lo':=w.heap.size) CO3.out.g.size 4)
      have hcl0:=BYC.out
      have KS:RowKit.Hid (∀ wx,Grown W7 wx→(wx.cell? ⟨b,o,none⟩=some (.int .u8 (x:Nat))∧wx.cell? ⟨w5.heap.size,0,none⟩=some (.int .i64 x0)∧wx.cell? ⟨w5.heap.size,1,none⟩=some (.int .i64 x1)∧wx.cell? ⟨w5.heap.size,2,none⟩=some (.slice q1 k1 l1)∧wx.cell? ⟨w5.heap.size,3,none⟩=some (.slice q2 k2 l2))):=Lib.hid (fun wx g=>⟨RD.ze hcl0 (CO7.out.g.trans' g),RD.ze (qG B7).1.1 g,RD.ze (qG B7).1.2.1 g,RD.ze (qG B7).1.2.2.1 g,RD.ze (qG B7).1.2.2.2 g⟩)
      rw [← hW7]
      have BB7:=Lib.hid B7
      have hwr:IntKind.i64.wrap 1=1:=by decide
      clear hW7 g7 B7 hcl0
      obtain ⟨e0,e1,e2,e3,e4⟩:=KS.out W7 (RD.zL _)
      have few:RowKit.Hid (ch.length+1≤100000):=Lib.hid (by omega)
      have HL:=Lib.hid hl
      refine wp_region_held_drew (S:=(fun wx=>wx.cell? ⟨b,o,none⟩=some (.int .u8 (x:Nat))∧wx.cell? ⟨w5.heap.size,0,none⟩=some (.int .i64 x0)∧wx.cell? ⟨w5.heap.size,1,none⟩=some (.int .i64 x1)∧wx.cell? ⟨w5.heap.size,2,none⟩=some (.slice q1 k1 l1)∧wx.cell? ⟨w5.heap.size,3,none⟩=some (.slice q2 k2 l2))) (by kernel_rfl) (KS.out _ (zp _)) (fun hHeld=>?_)
      refine wpAnyH_take (i:=0) (oi:=⟨some 41,_,_,_,_,_⟩) (v:=?_) rfl (by kernel_rfl) (by kernel_rfl) (by kernel_rfl) (fun _ _ _ h=>h) (Or.inl ⟨by rfl,?_⟩) (by assumption) ?_
      rotate_left
      ·intro w hSw
       try dsimp only at hSw
       go_simp
       try with_reducible rfl
      try dsimp only
      try simp only [Act.put,List.setIfInBounds_toArray,List.set_cons_zero,List.set_cons_succ]
      refine wpAnyH_take (i:=1) (oi:=⟨some 42,_,_,_,_,_⟩) (v:=?_) rfl (by kernel_rfl) (by kernel_rfl) (by kernel_rfl) (fun _ _ _ h=>h) (Or.inl ⟨by rfl,?_⟩) (by assumption) ?_
      rotate_left
      ·intro w hSw
       try dsimp only at hSw
       go_simp
       try with_reducible rfl
      try dsimp only
      try simp only [Act.put,List.setIfInBounds_toArray,List.set_cons_zero,List.set_cons_succ]
      refine wpAnyH_take (i:=2) (oi:=⟨some 43,_,_,_,_,_⟩) (v:=?_) rfl (by kernel_rfl) (by kernel_rfl) (by kernel_rfl) (fun _ _ _ h=>h) (Or.inl ⟨by rfl,?_⟩) (by assumption) ?_
      rotate_left
      ·intro w hSw
       try dsimp only at hSw
       go_simp
       try with_reducible rfl
      try dsimp only
      try simp only [Act.put,List.setIfInBounds_toArray,List.set_cons_zero,List.set_cons_succ]
      refine wpAnyH_take (i:=3) (oi:=⟨some 44,_,_,_,_,_⟩) (v:=?_) rfl (by kernel_rfl) (by kernel_rfl) (by kernel_rfl) (fun _ _ _ h=>h) (Or.inl ⟨by rfl,?_⟩) (by assumption) ?_
      rotate_left
      ·intro w hSw
       try dsimp only at hSw
       go_simp
       try with_reducible rfl
      try dsimp only
      try simp only [Act.put,List.setIfInBounds_toArray,List.set_cons_zero,List.set_cons_succ]
      refine wpAnyH_take (i:=4) (oi:=⟨some 45,_,_,_,_,_⟩) (v:=?_) rfl (by kernel_rfl) (by kernel_rfl) (by kernel_rfl) (fun _ _ _ h=>h) (Or.inl ⟨by rfl,?_⟩) (by assumption) ?_
      rotate_left
      ·intro w hSw
       try dsimp only at hSw
       go_simp
       try with_reducible rfl
      try dsimp only
      try simp only [Act.put,List.setIfInBounds_toArray,List.set_cons_zero,List.set_cons_succ]
      refine wpAnyH_take (i:=5) (oi:=⟨some 46,_,_,_,_,_⟩) (v:=?_) rfl (by kernel_rfl) (by kernel_rfl) (by kernel_rfl) (fun _ _ _ h=>h) (Or.inl ⟨by rfl,?_⟩) (by assumption) ?_
      rotate_left
      ·intro w hSw
       try dsimp only at hSw
       go_simp
       try with_reducible rfl
      try dsimp only
      try simp only [Act.put,List.setIfInBounds_toArray,List.set_cons_zero,List.set_cons_succ]
      refine wpAnyH_take (i:=6) (oi:=⟨some 47,_,_,_,_,_⟩) (v:=?_) rfl (by kernel_rfl) (by kernel_rfl) (by kernel_rfl) (fun _ _ _ h=>h) (Or.inl ⟨by rfl,?_⟩) (by assumption) ?_
      rotate_left
      ·intro w hSw
       try dsimp only at hSw
       go_simp
       try with_reducible rfl
      try dsimp only
      try simp only [Act.put,List.setIfInBounds_toArray,List.set_cons_zero,List.set_cons_succ]
      refine wpAnyH_take (i:=7) (oi:=⟨some 48,_,_,_,_,_⟩) (v:=?_) rfl (by kernel_rfl) (by kernel_rfl) (by kernel_rfl) (fun _ _ _ h=>h) (Or.inl ⟨by rfl,?_⟩) (by assumption) ?_
      rotate_left
      ·intro w hSw
       try dsimp only at hSw
       go_simp
       try with_reducible rfl
      try dsimp only
      try simp only [Act.put,List.setIfInBounds_toArray,List.set_cons_zero,List.set_cons_succ]
      refine wpAnyH_take (i:=8) (oi:=⟨some 49,_,_,_,_,_⟩) (v:=?_) rfl (by kernel_rfl) (by kernel_rfl) (by kernel_rfl) (fun _ _ _ h=>h) (Or.inl ⟨by rfl,?_⟩) (by assumption) ?_
      rotate_left
      ·intro w hSw
       try dsimp only at hSw
       go_simp
       try with_reducible rfl
      try dsimp only
      try simp only [Act.put,List.setIfInBounds_toArray,List.set_cons_zero,List.set_cons_succ]
      refine wpAnyH_take (i:=10) (oi:=⟨some 51,_,_,_,_,_⟩) (v:=?_) rfl (by kernel_rfl) (by kernel_rfl) (by kernel_rfl) (fun _ _ _ h=>h) (Or.inl ⟨by rfl,?_⟩) (by assumption) ?_
      rotate_left
      ·intro w hSw
       try dsimp only at hSw
       go_simp
       try with_reducible rfl
      try dsimp only
      try simp only [Act.put,List.setIfInBounds_toArray,List.set_cons_zero,List.set_cons_succ]
      refine wpAnyH_take (i:=13) (oi:=⟨some 54,_,_,_,_,_⟩) (v:=?_) rfl (by kernel_rfl) (by kernel_rfl) (by kernel_rfl) (fun _ _ _ h=>h) (Or.inl ⟨by rfl,?_⟩) (by assumption) ?_
      rotate_left
      ·intro w hSw
       try dsimp only at hSw
       go_simp
       try with_reducible rfl
      try dsimp only
      try simp only [Act.put,List.setIfInBounds_toArray,List.set_cons_zero,List.set_cons_succ]
      refine wpAnyH_ready (rs:=[9]) (by kernel_rfl) (by simp) ?_
      refine AllReadyH.cons rfl (fun K hK=>?_) AllReadyH.nil
      go_simp
      go_at_call 26
      with_reducible refine (Ql (s:=⟨#[99]⟩) (n:=1) (i:=1) rfl (by decide) (by decide)).mono ?_
      rintro e w6 ⟨v6,cs,rfl,hst,hcs,g6⟩
      have G6:=Lib.hid ((zp _).trans' g6)
      obtain ⟨p6,c6,rfl,hs6⟩:=hst.ph (by omega)
      rw [hcs]
      rw [hcs]at hs6
      obtain ⟨b6,o6,rfl,hc6⟩:=hs6.at (j:=0) (by decide)
      rw [Nat.add_zero]at hc6
      obtain ⟨nm,hnm⟩:∃ nm,nm=kS cs (((0:Nat):Int)+1):=⟨_,rfl⟩
      rw [← hnm]at hc6
      have HNM:=Lib.hid (show nm.size≤12 by rw [hnm];exact hs6.size _)
      have CO6:=Lib.hid ((CO7.out.grown G6.out).grown (za w6 (.cells #[.bool ((x:Int) % 2==1),.int .i64 (1+(x:Int) / 2 % 3),.string nm,.int .i64 x0,.int .i64 x1,.slice q1 k1 l1,.slice q2 k2 l2] 160)))
      have IC6:=Lib.hid (lY (b:=((x:Int) % 2==1)) (by omega:1≤1+(x:Int) / 2 % 3) (by omega) HNM.out ((FE7.out.qA 4 (zU G6.out)).qA 4 (zU (za w6 (.cells #[.bool ((x:Int) % 2==1),.int .i64 (1+(x:Int) / 2 % 3),.string nm,.int .i64 x0,.int .i64 x1,.slice q1 k1 l1,.slice q2 k2 l2] 160)))))
      have BB6:=Lib.hid (zk (za w6 (.cells #[.bool ((x:Int) % 2==1),.int .i64 (1+(x:Int) / 2 % 3),.string nm,.int .i64 x0,.int .i64 x1,.slice q1 k1 l1,.slice q2 k2 l2] 160)) (zk G6.out BB7.out))
      clear g6 hst hs6 hnm
      go_wp2_with fail
      refine hK.out _ _ (KS.out _ G6.out) (fun hHeld2=>?_)
      clear hK K
      try simp only [Act.put,List.setIfInBounds_toArray,List.set_cons_zero,List.set_cons_succ]
      refine wpAnyH_take (i:=11) (oi:=⟨some 52,_,_,_,_,_⟩) (v:=?_) rfl (by kernel_rfl) (by kernel_rfl) (by kernel_rfl) (fun _ _ _ h=>h) (Or.inl ⟨by rfl,?_⟩) (by assumption) ?_
      rotate_left
      ·intro w hSw
       try dsimp only at hSw
       go_simp
       try with_reducible rfl
      try dsimp only
      try simp only [Act.put,List.setIfInBounds_toArray,List.set_cons_zero,List.set_cons_succ]
      refine wpAnyH_ready (rs:=[12]) (by kernel_rfl) (by simp) ?_
      refine AllReadyH.cons rfl (fun K hK=>?_) AllReadyH.nil
      go_simp
      refine hK.out _ _ (KS.out _ G6.out) (fun hHeld3=>?_)
      clear hK K
      try simp only [Act.put,List.setIfInBounds_toArray,List.set_cons_zero,List.set_cons_succ]
      refine wpAnyH_take (i:=14) (oi:=⟨some 55,_,_,_,_,_⟩) (v:=?_) rfl (by kernel_rfl) (by kernel_rfl) (by kernel_rfl) (fun _ _ _ h=>h) (Or.inl ⟨by rfl,?_⟩) (by assumption) ?_
      rotate_left
      ·intro w hSw
       try dsimp only at hSw
       go_simp
       try with_reducible rfl
      try dsimp only
      try simp only [Act.put,List.setIfInBounds_toArray,List.set_cons_zero,List.set_cons_succ]
      refine wpAnyH_ready (rs:=[15]) (by kernel_rfl) (by simp) ?_
      refine AllReadyH.cons rfl (fun K hK=>?_) AllReadyH.nil
      go_simp
      refine hK.out _ _ (KS.out _ (Grown.trans' G6.out (za _ _))) (fun hHeld4=>?_)
      clear hK K
      try simp only [Act.put,List.setIfInBounds_toArray,List.set_cons_zero,List.set_cons_succ]
      refine wpAnyH_ready (rs:=[16]) (by kernel_rfl) (by simp) ?_
      refine AllReadyH.cons rfl (fun K hK=>?_) AllReadyH.nil
      refine GT.Xy vE (.tmp 41) (.tmp 56) (v:=.slice q4 ch.length c4) (lo:=w.heap.size) (n:=ch.length) (m:=1) (c0:=1) (ad:=⟨w6.heap.size,0,none⟩) (us:=[.bool ((x:Int) % 2==1),.int .i64 (1+(x:Int) / 2 % 3),.string nm,.int .i64 x0,.int .i64 x1,.slice q1 k1 l1,.slice q2 k2 l2]) (by rfl) (by rfl) CO6.out.row few.out Nat.one_pos CO6.out.g.size rfl (Wc (RD.zL _)) (fun u hu=>by simp at hu;rcases hu with rfl | rfl | rfl | rfl | rfl | rfl | rfl<;>rfl) (by rfl) (by rfl) ?_
      intro v' w8 a1 a2 a3
      have CO8:=Lib.hid (CoL.push CO6.out rfl a1 a3 IC6.out)
      have BB8:=qO BB6.out a3 CO6.out.row (by decide)
      have E8:=Lib.hid (And.intro (RD.ze BYC.out CO8.out.g) (qG BB8).1)
      clear a1 a2 a3 BB8
      refine hK.out _ _ E8.out (fun hHeld5=>?_)
      clear hK K
      try simp only [Act.put,List.setIfInBounds_toArray,List.set_cons_zero,List.set_cons_succ]
      refine wpAnyH_take (i:=17) (oi:=⟨some 3,_,_,_,_,_⟩) (v:=?_) rfl (by kernel_rfl) (by kernel_rfl) (by kernel_rfl) (fun _ _ _ h=>h) (Or.inl ⟨by rfl,?_⟩) (by assumption) ?_
      rotate_left
      ·intro w hSw
       try dsimp only at hSw
       go_simp
       try with_reducible rfl
      try dsimp only
      try simp only [Act.put,List.setIfInBounds_toArray,List.set_cons_zero,List.set_cons_succ]
      refine wpAnyH_done (by kernel_rfl) ?_ _
      try simp only [Act.put,List.setIfInBounds_toArray,List.set_cons_zero,List.set_cons_succ]
      all_goals (
       dsimp only [Exit.then,Exit.inBlock]
       go_wp2_with fail
       go_roundg 1
       case measure=>omega
       case rel=>exact ⟨1,_,by omega,rfl,CO8.out,by rw [List.length_append];have:=HL.out;show ch.length+1≤1;omega⟩)
     ·go_roundg 1
      case measure=>omega
      case rel=>exact ⟨1,ch,by omega,rfl,CO5.out.grown (za _ _),by omega⟩
    ·have h8n:¬ (0:Int)<n:=by omega
     go_wp2_with (first
      | (go_at_call 77;(with_reducible refine (QF (d:=4) (lo:=w.heap.size) (by decide) (KH CO.out.row) CO.out.ok rfl (by omega)).mono ?_);rintro e w2 ⟨s2,rfl,z2,g2⟩;have G2:=Lib.hid (CO.out.g.trans' g2);clear g2))
     go_ret
     exact ⟨s2,rfl,Nat.le_trans z2 (by decide),G2.out⟩
   ·have hi':_=Value.int .i64 1:=hi
    subst hi'
    by_cases hjn:8<n
    ·have h8n:(8:Int)<n:=by omega
     have h8m:(8:Int)≤n:=by omega
     have h8c:(8:Int)≤c:=by omega
     have hncI:(n:Int)≤c:=by omega
     have hn0:(0:Int)<((n-8:Nat):Int):=by omega
     obtain ⟨b,o,rfl,hcw⟩:=HB.out.at hjn
     have hbl:=ByL.blk HB.out (by omega)
     have BY:=Lib.hid (ByL.drop 8 (HB.out.grown CO.out.g))
     have hx8:=HB.out.KQ ((8:Nat):Int)
     have HBL:=Lib.hid (show ∀ a,some (⟨b,o+8,none⟩:Addr)=some a→a.block<wr.heap.size from fun a e=>by cases e;exact Nat.lt_of_lt_of_le hbl CO.out.g.size)
     obtain ⟨x,hx⟩:∃ x,x=atV L ((8:Nat):Int):=⟨_,rfl⟩
     rw [← hx]at hcw hx8
     clear hx
     have hcl:=RD.ze hcw CO.out.g
     have BYC:=Lib.hid hcw
     clear hcw
     go_wp2_with (first
      | (go_at_call 76;(with_reducible refine (U0 BY.out HBL.out).mono ?_);rintro e w2 ⟨v2,rfl,ft2,g2⟩;obtain ⟨u0,u1,p1,n1,c1,p2,n2,c2,rfl⟩:=FT.form ft2;have F2:=Lib.hid ft2;have CO2:=Lib.hid (CO.out.grown g2);clear g2 ft2)
      | (go_at_call 26;(with_reducible refine (Ql (s:=⟨#[114]⟩) (n:=4) (i:=4) rfl (by decide) (by decide)).mono ?_);rintro e w3 ⟨v3,ss,rfl,hst,hsl,g3⟩;obtain ⟨p3,c3,rfl,hsl2⟩:=hst.ph (by omega);have F3:=Lib.hid (F2.out.qA 4 (zU g3));have CO3:=Lib.hid (CO2.out.grown g3);rw [hsl];rw [hsl]at hsl2;have SL:=Lib.hid hsl2;clear g3 hst hsl2)
      | (go_at_call 75;(with_reducible refine (Wq (by decide) F3.out SL.out).mono ?_);rintro e w5 ⟨x0,x1,q1,k1,l1,q2,k2,l2,q5,rfl,hq5,hfe,g5⟩;have CO5:=Lib.hid (CO3.out.grown g5);have FE5:=Lib.hid hfe;clear g5 hfe))
     ·obtain rfl:q5=0:=by first | omega | (simp at *;omega)
      obtain ⟨W7,hW7⟩:∃ W7,W7=w5.alloc (.cells #[.int .i64 x0,.int .i64 x1,.slice q1 k1 l1,.slice q2 k2 l2] 152):=⟨_,rfl⟩
      have g7:Grown w5 W7:=by rw [hW7];exact za _ _
      have B7:zx Tryz.prog W7 (w5.heap.size,0,0) 152 [.int .i64 x0,.int .i64 x1,.slice q1 k1 l1,.slice q2 k2 l2]:=by rw [hW7];exact zn w5
      have CO7:=Lib.hid (CO5.out.grown g7)
      have FE7:=Lib.hid (((FE5.out rfl).qA 4 (zU g7)).lower (lo':=w.heap.size) CO3.out.g.size 4)
      have hcl0:=BYC.out
      have KS:RowKit.Hid (∀ wx,Grown W7 wx→(wx.cell? ⟨b,o+8,none⟩=some (.int .u8 (x:Nat))∧wx.cell? ⟨w5.heap.size,0,none⟩=some (.int .i64 x0)∧wx.cell? ⟨w5.heap.size,1,none⟩=some (.int .i64 x1)∧wx.cell? ⟨w5.heap.size,2,none⟩=some (.slice q1 k1 l1)∧wx.cell? ⟨w5.heap.size,3,none⟩=some (.slice q2 k2 l2))):=Lib.hid (fun wx g=>⟨RD.ze hcl0 (CO7.out.g.trans' g),RD.ze (qG B7).1.1 g,RD.ze (qG B7).1.2.1 g,RD.ze (qG B7).1.2.2.1 g,RD.ze (qG B7).1.2.2.2 g⟩)
      rw [← hW7]
      have BB7:=Lib.hid B7
      have hwr:IntKind.i64.wrap 2=2:=by decide
      clear hW7 g7 B7 hcl0
      obtain ⟨e0,e1,e2,e3,e4⟩:=KS.out W7 (RD.zL _)
      have few:RowKit.Hid (ch.length+1≤100000):=Lib.hid (by omega)
      have HL:=Lib.hid hl
      have hnn:0<n-8:=by omega
      refine wp_region_held_drew (S:=(fun wx=>wx.cell? ⟨b,o+8,none⟩=some (.int .u8 (x:Nat))∧wx.cell? ⟨w5.heap.size,0,none⟩=some (.int .i64 x0)∧wx.cell? ⟨w5.heap.size,1,none⟩=some (.int .i64 x1)∧wx.cell? ⟨w5.heap.size,2,none⟩=some (.slice q1 k1 l1)∧wx.cell? ⟨w5.heap.size,3,none⟩=some (.slice q2 k2 l2))) (by kernel_rfl) (KS.out _ (zp _)) (fun hHeld=>?_)
      refine wpAnyH_take (i:=0) (oi:=⟨some 41,_,_,_,_,_⟩) (v:=?_) rfl (by kernel_rfl) (by kernel_rfl) (by kernel_rfl) (fun _ _ _ h=>h) (Or.inl ⟨by rfl,?_⟩) (by assumption) ?_
      rotate_left
      ·intro w hSw
       try dsimp only at hSw
       go_simp
       try with_reducible rfl
      try dsimp only
      try simp only [Act.put,List.setIfInBounds_toArray,List.set_cons_zero,List.set_cons_succ]
      refine wpAnyH_take (i:=1) (oi:=⟨some 42,_,_,_,_,_⟩) (v:=?_) rfl (by kernel_rfl) (by kernel_rfl) (by kernel_rfl) (fun _ _ _ h=>h) (Or.inl ⟨by rfl,?_⟩) (by assumption) ?_
      rotate_left
      ·intro w hSw
       try dsimp only at hSw
       go_simp
       try with_reducible rfl
      try dsimp only
      try simp only [Act.put,List.setIfInBounds_toArray,List.set_cons_zero,List.set_cons_succ]
      refine wpAnyH_take (i:=2) (oi:=⟨some 43,_,_,_,_,_⟩) (v:=?_) rfl (by kernel_rfl) (by kernel_rfl) (by kernel_rfl) (fun _ _ _ h=>h) (Or.inl ⟨by rfl,?_⟩) (by assumption) ?_
      rotate_left
      ·intro w hSw
       try dsimp only at hSw
       go_simp
       try with_reducible rfl
      try dsimp only
      try simp only [Act.put,List.setIfInBounds_toArray,List.set_cons_zero,List.set_cons_succ]
      refine wpAnyH_take (i:=3) (oi:=⟨some 44,_,_,_,_,_⟩) (v:=?_) rfl (by kernel_rfl) (by kernel_rfl) (by kernel_rfl) (fun _ _ _ h=>h) (Or.inl ⟨by rfl,?_⟩) (by assumption) ?_
      rotate_left
      ·intro w hSw
       try dsimp only at hSw
       go_simp
       try with_reducible rfl
      try dsimp only
      try simp only [Act.put,List.setIfInBounds_toArray,List.set_cons_zero,List.set_cons_succ]
      refine wpAnyH_take (i:=4) (oi:=⟨some 45,_,_,_,_,_⟩) (v:=?_) rfl (by kernel_rfl) (by kernel_rfl) (by kernel_rfl) (fun _ _ _ h=>h) (Or.inl ⟨by rfl,?_⟩) (by assumption) ?_
      rotate_left
      ·intro w hSw
       try dsimp only at hSw
       go_simp
       try with_reducible rfl
      try dsimp only
      try simp only [Act.put,List.setIfInBounds_toArray,List.set_cons_zero,List.set_cons_succ]
      refine wpAnyH_take (i:=5) (oi:=⟨some 46,_,_,_,_,_⟩) (v:=?_) rfl (by kernel_rfl) (by kernel_rfl) (by kernel_rfl) (fun _ _ _ h=>h) (Or.inl ⟨by rfl,?_⟩) (by assumption) ?_
      rotate_left
      ·intro w hSw
       try dsimp only at hSw
       go_simp
       try with_reducible rfl
      try dsimp only
      try simp only [Act.put,List.setIfInBounds_toArray,List.set_cons_zero,List.set_cons_succ]
      refine wpAnyH_take (i:=6) (oi:=⟨some 47,_,_,_,_,_⟩) (v:=?_) rfl (by kernel_rfl) (by kernel_rfl) (by kernel_rfl) (fun _ _ _ h=>h) (Or.inl ⟨by rfl,?_⟩) (by assumption) ?_
      rotate_left
      ·intro w hSw
       try dsimp only at hSw
       go_simp
       try with_reducible rfl
      try dsimp only
      try simp only [Act.put,List.setIfInBounds_toArray,List.set_cons_zero,List.set_cons_succ]
      refine wpAnyH_take (i:=7) (oi:=⟨some 48,_,_,_,_,_⟩) (v:=?_) rfl (by kernel_rfl) (by kernel_rfl) (by kernel_rfl) (fun _ _ _ h=>h) (Or.inl ⟨by rfl,?_⟩) (by assumption) ?_
      rotate_left
      ·intro w hSw
       try dsimp only at hSw
       go_simp
       try with_reducible rfl
      try dsimp only
      try simp only [Act.put,List.setIfInBounds_toArray,List.set_cons_zero,List.set_cons_succ]
      refine wpAnyH_take (i:=8) (oi:=⟨some 49,_,_,_,_,_⟩) (v:=?_) rfl (by kernel_rfl) (by kernel_rfl) (by kernel_rfl) (fun _ _ _ h=>h) (Or.inl ⟨by rfl,?_⟩) (by assumption) ?_
      rotate_left
      ·intro w hSw
       try dsimp only at hSw
       go_simp
       try with_reducible rfl
      try dsimp only
      try simp only [Act.put,List.setIfInBounds_toArray,List.set_cons_zero,List.set_cons_succ]
      refine wpAnyH_take (i:=10) (oi:=⟨some 51,_,_,_,_,_⟩) (v:=?_) rfl (by kernel_rfl) (by kernel_rfl) (by kernel_rfl) (fun _ _ _ h=>h) (Or.inl ⟨by rfl,?_⟩) (by assumption) ?_
      rotate_left
      ·intro w hSw
       try dsimp only at hSw
       go_simp
       try with_reducible rfl
      try dsimp only
      try simp only [Act.put,List.setIfInBounds_toArray,List.set_cons_zero,List.set_cons_succ]
      refine wpAnyH_take (i:=13) (oi:=⟨some 54,_,_,_,_,_⟩) (v:=?_) rfl (by kernel_rfl) (by kernel_rfl) (by kernel_rfl) (fun _ _ _ h=>h) (Or.inl ⟨by rfl,?_⟩) (by assumption) ?_
      rotate_left
      ·intro w hSw
       try dsimp only at hSw
       go_simp
       try with_reducible rfl
      try dsimp only
      try simp only [Act.put,List.setIfInBounds_toArray,List.set_cons_zero,List.set_cons_succ]
      refine wpAnyH_ready (rs:=[9]) (by kernel_rfl) (by simp) ?_
      refine AllReadyH.cons rfl (fun K hK=>?_) AllReadyH.nil
      go_simp
      go_at_call 26
      with_reducible refine (Ql (s:=⟨#[99]⟩) (n:=2) (i:=2) rfl (by decide) (by decide)).mono ?_
      rintro e w6 ⟨v6,cs,rfl,hst,hcs,g6⟩
      have G6:=Lib.hid ((zp _).trans' g6)
      obtain ⟨p6,c6,rfl,hs6⟩:=hst.ph (by omega)
      rw [hcs]
      rw [hcs]at hs6
      obtain ⟨b6,o6,rfl,hc6⟩:=hs6.at (j:=1) (by decide)
      obtain ⟨nm,hnm⟩:∃ nm,nm=kS cs (((1:Nat):Int)+1):=⟨_,rfl⟩
      rw [← hnm]at hc6
      have HNM:=Lib.hid (show nm.size≤12 by rw [hnm];exact hs6.size _)
      have CO6:=Lib.hid ((CO7.out.grown G6.out).grown (za w6 (.cells #[.bool ((x:Int) % 2==1),.int .i64 (1+(x:Int) / 2 % 3),.string nm,.int .i64 x0,.int .i64 x1,.slice q1 k1 l1,.slice q2 k2 l2] 160)))
      have IC6:=Lib.hid (lY (b:=((x:Int) % 2==1)) (by omega:1≤1+(x:Int) / 2 % 3) (by omega) HNM.out ((FE7.out.qA 4 (zU G6.out)).qA 4 (zU (za w6 (.cells #[.bool ((x:Int) % 2==1),.int .i64 (1+(x:Int) / 2 % 3),.string nm,.int .i64 x0,.int .i64 x1,.slice q1 k1 l1,.slice q2 k2 l2] 160)))))
      have BB6:=Lib.hid (zk (za w6 (.cells #[.bool ((x:Int) % 2==1),.int .i64 (1+(x:Int) / 2 % 3),.string nm,.int .i64 x0,.int .i64 x1,.slice q1 k1 l1,.slice q2 k2 l2] 160)) (zk G6.out BB7.out))
      clear g6 hst hs6 hnm
      go_wp2_with fail
      refine hK.out _ _ (KS.out _ G6.out) (fun hHeld2=>?_)
      clear hK K
      try simp only [Act.put,List.setIfInBounds_toArray,List.set_cons_zero,List.set_cons_succ]
      refine wpAnyH_take (i:=11) (oi:=⟨some 52,_,_,_,_,_⟩) (v:=?_) rfl (by kernel_rfl) (by kernel_rfl) (by kernel_rfl) (fun _ _ _ h=>h) (Or.inl ⟨by rfl,?_⟩) (by assumption) ?_
      rotate_left
      ·intro w hSw
       try dsimp only at hSw
       go_simp
       try with_reducible rfl
      try dsimp only
      try simp only [Act.put,List.setIfInBounds_toArray,List.set_cons_zero,List.set_cons_succ]
      refine wpAnyH_ready (rs:=[12]) (by kernel_rfl) (by simp) ?_
      refine AllReadyH.cons rfl (fun K hK=>?_) AllReadyH.nil
      go_simp
      refine hK.out _ _ (KS.out _ G6.out) (fun hHeld3=>?_)
      clear hK K
      try simp only [Act.put,List.setIfInBounds_toArray,List.set_cons_zero,List.set_cons_succ]
      refine wpAnyH_take (i:=14) (oi:=⟨some 55,_,_,_,_,_⟩) (v:=?_) rfl (by kernel_rfl) (by kernel_rfl) (by kernel_rfl) (fun _ _ _ h=>h) (Or.inl ⟨by rfl,?_⟩) (by assumption) ?_
      rotate_left
      ·intro w hSw
       try dsimp only at hSw
       go_simp
       try with_reducible rfl
      try dsimp only
      try simp only [Act.put,List.setIfInBounds_toArray,List.set_cons_zero,List.set_cons_succ]
      refine wpAnyH_ready (rs:=[15]) (by kernel_rfl) (by simp) ?_
      refine AllReadyH.cons rfl (fun K hK=>?_) AllReadyH.nil
      go_simp
      refine hK.out _ _ (KS.out _ (Grown.trans' G6.out (za _ _))) (fun hHeld4=>?_)
      clear hK K
      try simp only [Act.put,List.setIfInBounds_toArray,List.set_cons_zero,List.set_cons_succ]
      refine wpAnyH_ready (rs:=[16]) (by kernel_rfl) (by simp) ?_
      refine AllReadyH.cons rfl (fun K hK=>?_) AllReadyH.nil
      refine GT.Xy vE (.tmp 41) (.tmp 56) (v:=.slice q4 ch.length c4) (lo:=w.heap.size) (n:=ch.length) (m:=1) (c0:=1) (ad:=⟨w6.heap.size,0,none⟩) (us:=[.bool ((x:Int) % 2==1),.int .i64 (1+(x:Int) / 2 % 3),.string nm,.int .i64 x0,.int .i64 x1,.slice q1 k1 l1,.slice q2 k2 l2]) (by rfl) (by rfl) CO6.out.row few.out Nat.one_pos CO6.out.g.size rfl (Wc (RD.zL _)) (fun u hu=>by simp at hu;rcases hu with rfl | rfl | rfl | rfl | rfl | rfl | rfl<;>rfl) (by rfl) (by rfl) ?_
      intro v' w8 a1 a2 a3
      have CO8:=Lib.hid (CoL.push CO6.out rfl a1 a3 IC6.out)
      have BB8:=qO BB6.out a3 CO6.out.row (by decide)
      have E8:=Lib.hid (And.intro (RD.ze BYC.out CO8.out.g) (qG BB8).1)
      clear a1 a2 a3 BB8
      refine hK.out _ _ E8.out (fun hHeld5=>?_)
      clear hK K
      try simp only [Act.put,List.setIfInBounds_toArray,List.set_cons_zero,List.set_cons_succ]
      refine wpAnyH_take (i:=17) (oi:=⟨some 3,_,_,_,_,_⟩) (v:=?_) rfl (by kernel_rfl) (by kernel_rfl) (by kernel_rfl) (fun _ _ _ h=>h) (Or.inl ⟨by rfl,?_⟩) (by assumption) ?_
      rotate_left
      ·intro w hSw
       try dsimp only at hSw
       go_simp
       try with_reducible rfl
      try dsimp only
      try simp only [Act.put,List.setIfInBounds_toArray,List.set_cons_zero,List.set_cons_succ]
      refine wpAnyH_done (by kernel_rfl) ?_ _
      try simp only [Act.put,List.setIfInBounds_toArray,List.set_cons_zero,List.set_cons_succ]
      all_goals (
       dsimp only [Exit.then,Exit.inBlock]
       go_wp2_with fail
       go_roundg 0
       case measure=>omega
       case rel=>exact ⟨2,_,by omega,rfl,CO8.out,by rw [List.length_append];have:=HL.out;show ch.length+1≤2;omega⟩)
     ·go_roundg 0
      case measure=>omega
      case rel=>exact ⟨2,ch,by omega,rfl,CO5.out.grown (za _ _),by omega⟩
    ·have h8n:¬ (8:Int)<n:=by omega
     go_wp2_with (first
      | (go_at_call 77;(with_reducible refine (QF (d:=4) (lo:=w.heap.size) (by decide) (KH CO.out.row) CO.out.ok rfl (by omega)).mono ?_);rintro e w2 ⟨s2,rfl,z2,g2⟩;have G2:=Lib.hid (CO.out.g.trans' g2);clear g2))
     go_ret
     exact ⟨s2,rfl,Nat.le_trans z2 (by decide),G2.out⟩
  | zero=>
   obtain rfl:j=2:=by omega
   have hi':_=Value.int .i64 2:=hi
   subst hi'
   go_wp2_with (first
    | (go_at_call 77;(with_reducible refine (QF (d:=4) (lo:=w.heap.size) (by decide) (KH CO.out.row) CO.out.ok rfl (by omega)).mono ?_);rintro e w2 ⟨s2,rfl,z2,g2⟩;have G2:=Lib.hid (CO.out.g.trans' g2);clear g2))
   go_ret
   exact ⟨s2,rfl,Nat.le_trans z2 (by decide),G2.out⟩
end MK
end
end Go.AEv
