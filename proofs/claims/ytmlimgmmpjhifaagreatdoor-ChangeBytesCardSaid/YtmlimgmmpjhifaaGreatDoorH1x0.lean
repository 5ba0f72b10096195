/- One operator of an expression is checked. Conditions: the tree lies in memory. -/
import Derived.Test.YtmlimgmmpjhifaaGreatDoorL1a
set_option maxHeartbeats 8000000
set_option maxRecDepth 100000
set_option linter.all false
namespace Go.AEv
section
open Go Go.Proofs TR
namespace MK
open Go.AEv.GT (zO qq)
theorem fN {w:World}{op:Int}:Calls Tryz.prog 340 #[.int .i64 op] w (Ret (.int .i64 (yi op)) w):=by
 unfold yi
 by_cases h8:8≤op
 ·rw [if_pos h8]
  go_enter Tryz.func340,Tryz.ntmps340
  go_wp2
  go_ret
  exact ret rfl
 ·rw [if_neg h8]
  by_cases h7:op=7
  ·rw [if_pos h7]
   subst h7
   go_enter Tryz.func340,Tryz.ntmps340
   go_wp2
   go_ret
   exact ret rfl
  ·rw [if_neg h7]
   have h7':(op==7)=false:=beq_eq_false_iff_ne.2 h7
   go_enter Tryz.func340,Tryz.ntmps340
   go_wp2
   go_ret
   exact ret rfl
theorem JJ {w:World}{op:Int}{m:Nat} (hm:m=yi op):Calls Tryz.prog 340 #[.int .i64 op] w (fun e w2=>e = .returned (.int .i64 m)∧w2=w):=by
 subst hm
 exact fN
theorem Cs.take {w:World}{p:Option Addr}{us:List Value} (h:Cs w p us) (j:Nat):Cs w p (us.take j):=fun hn=>by
 obtain ⟨b,o,e,hc⟩:=h (fun e=>hn (by rw [e];exact List.take_nil))
 refine ⟨b,o,e,fun k u hk=>hc k u ?_⟩
 rw [List.getElem?_take]at hk
 split at hk
 ·exact hk
 ·cases hk
theorem xL {w:World}{p1 p2:Option Addr}{c1 c2 m:Nat}{rs:List Value}{op:Int}{k:Nat} (h1:1≤op) (h16:op≤16) (e4:(op==4)=false) (e6:(op==6)=false) (e5:(op==5)=false) (e1:¬ op=1) (k0:k=0) (hm:m=yi op) (hc1:Cs w p1 rs) (hk:rs.length=k) (hcap:k≤c1) (hrs:∀ r∈rs,Vd r):Calls Tryz.prog 264 #[.agg #[.int .i64 op,.int .i64 0,.slice p1 k c1,.slice p2 m c2]] w (Zg 100 w):=by
 have a1:¬ op<1:=by omega
 have a2:¬ 16<op:=by omega
 have b1:¬ (k:Int)<0:=by omega
 have b2:¬ (0:Int)<k:=by omega
 have few:k≤4:=by omega
 have hcapI:((k:Nat):Int)≤(c1:Int):=by omega
 have C1:=Lib.hid hc1
 have HRS:=Lib.hid hrs
 have HK:=Lib.hid hk
 have HM:=Lib.hid hm
 have K0:=Lib.hid (k0)
 clear hc1 hrs hk hm k0
 go_enter Tryz.func264,Tryz.ntmps264
 go_wp2_with fail
 go_quiet (first | (go_at_call 340;exact Calls.quiet_of_same (JJ HM.out)))
 go_wp2_with fail
 have G0:=Lib.hid ((za w (.cells #[.int .i64 op,.int .i64 0,.slice p1 k c1,.slice p2 m c2] 152)).trans' (ql _ nq))
 have R0:=Lib.hid (zk (ql _ nq) (zn w (z:=#[.int .i64 op,.int .i64 0,.slice p1 k c1,.slice p2 m c2]) (t:=152)))
 go_loopg [62] k (fun g i wx=>Grown w wx∧zx Tryz.prog wx (w.heap.size,0,0) 152 [.int .i64 op,.int .i64 0,.slice p1 k c1,.slice p2 m c2]∧∃ j:Nat,j+g=k∧i = .int .i64 j)
 case atStart=>exact ⟨G0.out,R0.out,0,by omega,rfl⟩
 case round=>
  obtain ⟨hg,hr,j,hj,rfl⟩:=hrel
  have HG:=Lib.hid hg
  have HR:=Lib.hid hr
  clear hg hr
  cases gk with
  | succ g=>
   exfalso
   have:=K0.out
   omega
  | zero=>
   have hjn:¬ (j:Int)<(k:Nat):=by omega
   obtain ⟨⟨y0,_,y2,_⟩,_⟩:=qG HR.out
   go_wp2_with fail
   go_loopg [73] k (fun g i wx=>Grown w wx∧zx Tryz.prog wx (w.heap.size,0,0) 152 [.int .i64 op,.int .i64 0,.slice p1 k c1,.slice p2 m c2]∧∃ j:Nat,j+g=k∧i = .int .i64 j)
   case atStart=>exact ⟨HG.out,HR.out,0,by omega,rfl⟩
   case round=>
    obtain ⟨hg,hr,j,hj,rfl⟩:=hrel
    have HG2:=Lib.hid hg
    have HR2:=Lib.hid hr
    clear hg hr
    cases gk with
    | succ g=>
     exfalso
     have:=K0.out
     omega
    | zero=>
     have hjn:¬ (j:Int)<(k:Nat):=by omega
     obtain ⟨⟨x0,x1,_,_⟩,_⟩:=qG HR2.out
     go_wp2_with fail
     go_ret
     exact ⟨0,rfl,by decide,HG2.out⟩
theorem xP {w:World}{p1 p2:Option Addr}{c1 c2 m:Nat}{rs:List Value}{n:Int}{k:Nat} (h0:0≤n) (h3:n≤3) (k0:k=0) (hm:m=yi 1) (hc1:Cs w p1 rs) (hk:rs.length=k) (hcap:k≤c1) (hrs:∀ r∈rs,Vd r):Calls Tryz.prog 264 #[.agg #[.int .i64 1,.int .i64 n,.slice p1 k c1,.slice p2 m c2]] w (Zg 100 w):=by
 have a1:¬ n<0:=by omega
 have a2:¬ 999999<n:=by omega
 have b1:¬ (k:Int)<0:=by omega
 have b2:¬ (0:Int)<k:=by omega
 have few:k≤4:=by omega
 have hcapI:((k:Nat):Int)≤(c1:Int):=by omega
 have C1:=Lib.hid hc1
 have HRS:=Lib.hid hrs
 have HK:=Lib.hid hk
 have HM:=Lib.hid hm
 have K0:=Lib.hid (k0)
 clear hc1 hrs hk hm k0
 go_enter Tryz.func264,Tryz.ntmps264
 go_wp2_with fail
 go_quiet (first | (go_at_call 340;exact Calls.quiet_of_same (JJ HM.out)))
 go_wp2_with fail
 have G0:=Lib.hid ((za w (.cells #[.int .i64 1,.int .i64 n,.slice p1 k c1,.slice p2 m c2] 152)).trans' (ql _ nq))
 have R0:=Lib.hid (zk (ql _ nq) (zn w (z:=#[.int .i64 1,.int .i64 n,.slice p1 k c1,.slice p2 m c2]) (t:=152)))
 go_loopg [62] k (fun g i wx=>Grown w wx∧zx Tryz.prog wx (w.heap.size,0,0) 152 [.int .i64 1,.int .i64 n,.slice p1 k c1,.slice p2 m c2]∧∃ j:Nat,j+g=k∧i = .int .i64 j)
 case atStart=>exact ⟨G0.out,R0.out,0,by omega,rfl⟩
 case round=>
  obtain ⟨hg,hr,j,hj,rfl⟩:=hrel
  have HG:=Lib.hid hg
  have HR:=Lib.hid hr
  clear hg hr
  cases gk with
  | succ g=>
   exfalso
   have:=K0.out
   omega
  | zero=>
   have hjn:¬ (j:Int)<(k:Nat):=by omega
   obtain ⟨⟨y0,_,y2,_⟩,_⟩:=qG HR.out
   go_wp2_with fail
   go_loopg [73] k (fun g i wx=>Grown w wx∧zx Tryz.prog wx (w.heap.size,0,0) 152 [.int .i64 1,.int .i64 n,.slice p1 k c1,.slice p2 m c2]∧∃ j:Nat,j+g=k∧i = .int .i64 j)
   case atStart=>exact ⟨HG.out,HR.out,0,by omega,rfl⟩
   case round=>
    obtain ⟨hg,hr,j,hj,rfl⟩:=hrel
    have HG2:=Lib.hid hg
    have HR2:=Lib.hid hr
    clear hg hr
    cases gk with
    | succ g=>
     exfalso
     have:=K0.out
     omega
    | zero=>
     have hjn:¬ (j:Int)<(k:Nat):=by omega
     obtain ⟨⟨x0,x1,_,_⟩,_⟩:=qG HR2.out
     go_wp2_with fail
     go_ret
     exact ⟨0,rfl,by decide,HG2.out⟩
theorem xO {w : World} {p1 p2 : Option Addr} {c1 c2 m : Nat} {rs : List Value} {k : Nat} (k1 : k = 1) (hm : m = yi 4) (hc1 : Cs w p1 rs) (hk : rs.length = k) (hcap : k ≤ c1) (hrs : ∀ r ∈ rs, Vd r) : Calls Tryz.prog 264 #[.agg #[.int .i64 4, .int .i64 0, .slice p1 k c1, .slice p2 m c2]] w (Zg 100 w) := by
  have b1 : ¬ (k : Int) < 1 := by omega
  have b2 : ¬ (1 : Int) < k := by omega
  have few : k ≤ 4 := by omega
  have hcapI : ((k : Nat) : Int) ≤ (c1 : Int) := by omega
  have C1 := Lib.hid hc1
  have HRS := Lib.hid hrs
  have HK := Lib.hid hk
  have HM := Lib.hid hm
  have K0 := Lib.hid (k1)
  clear hc1 hrs hk hm k1
  go_enter Tryz.func264, Tryz.ntmps264
  go_wp2_with fail
  go_quiet (first | (go_at_call 340; exact Calls.quiet_of_same (JJ HM.out)))
  go_wp2_with fail
  have G0 := Lib.hid ((za w (.cells #[.int .i64 4, .int .i64 0, .slice p1 k c1, .slice p2 m c2] 152)).trans' (ql _ nq))
  have R0 := Lib.hid (zk (ql _ nq) (zn w (z := #[.int .i64 4, .int .i64 0, .slice p1 k c1, .slice p2 m c2]) (t := 152)))
  go_loopg [62] k (fun g i wx => Grown w wx ∧ zx Tryz.prog wx (w.heap.size, 0, 0) 152 [.int .i64 4, .int .i64 0, .slice p1 k c1, .slice p2 m c2] ∧ ∃ j : Nat, j + g = k ∧ i = .int .i64 j)
  case atStart => exact ⟨G0.out, R0.out, 0, by omega, rfl⟩
  case round =>
    obtain ⟨hg, hr, j, hj, rfl⟩ := hrel
    have HG := Lib.hid hg
    have HR := Lib.hid hr
    clear hg hr
    cases gk with
    | succ g =>
      have hjn : (j : Int) < (k : Nat) := by omega
      have hjl : j < rs.length := by have := HK.out; omega
      obtain ⟨x, hx, hx12⟩ := HRS.out _ (List.getElem_mem hjl)
      obtain ⟨b, o, rfl, hc⟩ := (C1.out.grown HG.out) (fun e => by rw [e] at hjl; cases hjl)
      have hcell := hc j _ (List.getElem?_eq_getElem hjl)
      rw [hx] at hcell
      clear hc hx
      go_wp2_with (first
        | (go_at_call 134; (with_reducible refine (Qv (by omega)).mono ?_); rintro e w2 ⟨bb, rfl, g2⟩; have G2 := Lib.hid (HG.out.trans' g2); have R2 := Lib.hid (zk g2 HR.out); clear g2))
      all_goals first
        | (go_ret; exact ⟨9, rfl, by decide, G2.out⟩)
        | (go_roundg g
           case measure => omega
           case rel => exact ⟨G2.out, R2.out, j + 1, by omega, rfl⟩)
    | zero =>
      have hjn : ¬ (j : Int) < (k : Nat) := by omega
      obtain ⟨⟨y0, _, y2, _⟩, _⟩ := qG HR.out
      go_wp2_with fail
      go_loopg [73] k (fun g i wx => Grown w wx ∧ zx Tryz.prog wx (w.heap.size, 0, 0) 152 [.int .i64 4, .int .i64 0, .slice p1 k c1, .slice p2 m c2] ∧ ∃ j : Nat, j + g = k ∧ i = .int .i64 j)
      case atStart => exact ⟨HG.out, HR.out, 0, by omega, rfl⟩
      case round =>
        obtain ⟨hg, hr, j, hj, rfl⟩ := hrel
        have HG2 := Lib.hid hg
        have HR2 := Lib.hid hr
        clear hg hr
        cases gk with
        | succ g =>
          have hjn : (j : Int) < (k : Nat) := by omega
          have hjl : j < rs.length := by have := HK.out; omega
          have hj0 : (0 : Int) ≤ (j : Int) := by omega
          have hjc : (j : Int) ≤ (c1 : Int) := by omega
          obtain ⟨x, hx, hx12⟩ := HRS.out _ (List.getElem_mem hjl)
          have CT := Lib.hid ((C1.out.grown HG2.out).take j)
          obtain ⟨b, o, rfl, hc⟩ := (C1.out.grown HG2.out) (fun e => by rw [e] at hjl; cases hjl)
          have hcell := hc j _ (List.getElem?_eq_getElem hjl)
          rw [hx] at hcell
          obtain ⟨⟨x0, _, x2, _⟩, _⟩ := qG HR2.out
          have HT : RowKit.Hid ((rs.take j).length = j) := Lib.hid (by rw [List.length_take]; omega)
          have HU : RowKit.Hid (∀ u ∈ rs.take j, ∃ x, u = Value.string x) := Lib.hid (fun u m => by obtain ⟨x, e, _⟩ := HRS.out u (List.mem_of_mem_take m); exact ⟨x, e⟩)
          clear hc hx
          go_wp2_with (first
            | (go_at_call 189; (with_reducible refine (Zb CT.out HT.out HU.out (by omega)).mono ?_); rintro e w2 ⟨kk, rfl, rfl⟩))
          all_goals first
            | (go_ret; exact ⟨5, rfl, by decide, HG2.out⟩)
            | (go_roundg g
               case measure => omega
               case rel => exact ⟨HG2.out, HR2.out, j + 1, by omega, rfl⟩)
        | zero =>
          have hjn : ¬ (j : Int) < (k : Nat) := by omega
          obtain ⟨⟨x0, x1, _, _⟩, _⟩ := qG HR2.out
          go_wp2_with fail
          go_ret
          exact ⟨0, rfl, by decide, HG2.out⟩
theorem xM {w : World} {p1 p2 : Option Addr} {c1 c2 m : Nat} {rs : List Value} {k : Nat} (k1 : k = 1) (hm : m = yi 6) (hc1 : Cs w p1 rs) (hk : rs.length = k) (hcap : k ≤ c1) (hrs : ∀ r ∈ rs, Vd r) : Calls Tryz.prog 264 #[.agg #[.int .i64 6, .int .i64 0, .slice p1 k c1, .slice p2 m c2]] w (Zg 100 w) := by
  have b1 : ¬ (k : Int) < 1 := by omega
  have b2 : ¬ (1 : Int) < k := by omega
  have few : k ≤ 4 := by omega
  have hcapI : ((k : Nat) : Int) ≤ (c1 : Int) := by omega
  have C1 := Lib.hid hc1
  have HRS := Lib.hid hrs
  have HK := Lib.hid hk
  have HM := Lib.hid hm
  have K0 := Lib.hid (k1)
  clear hc1 hrs hk hm k1
  go_enter Tryz.func264, Tryz.ntmps264
  go_wp2_with fail
  go_quiet (first | (go_at_call 340; exact Calls.quiet_of_same (JJ HM.out)))
  go_wp2_with fail
  have G0 := Lib.hid ((za w (.cells #[.int .i64 6, .int .i64 0, .slice p1 k c1, .slice p2 m c2] 152)).trans' (ql _ nq))
  have R0 := Lib.hid (zk (ql _ nq) (zn w (z := #[.int .i64 6, .int .i64 0, .slice p1 k c1, .slice p2 m c2]) (t := 152)))
  go_loopg [62] k (fun g i wx => Grown w wx ∧ zx Tryz.prog wx (w.heap.size, 0, 0) 152 [.int .i64 6, .int .i64 0, .slice p1 k c1, .slice p2 m c2] ∧ ∃ j : Nat, j + g = k ∧ i = .int .i64 j)
  case atStart => exact ⟨G0.out, R0.out, 0, by omega, rfl⟩
  case round =>
    obtain ⟨hg, hr, j, hj, rfl⟩ := hrel
    have HG := Lib.hid hg
    have HR := Lib.hid hr
    clear hg hr
    cases gk with
    | succ g =>
      have hjn : (j : Int) < (k : Nat) := by omega
      have hjl : j < rs.length := by have := HK.out; omega
      obtain ⟨x, hx, hx12⟩ := HRS.out _ (List.getElem_mem hjl)
      obtain ⟨b, o, rfl, hc⟩ := (C1.out.grown HG.out) (fun e => by rw [e] at hjl; cases hjl)
      have hcell := hc j _ (List.getElem?_eq_getElem hjl)
      rw [hx] at hcell
      clear hc hx
      go_wp2_with (first
        | (go_at_call 134; (with_reducible refine (Qv (by omega)).mono ?_); rintro e w2 ⟨bb, rfl, g2⟩; have G2 := Lib.hid (HG.out.trans' g2); have R2 := Lib.hid (zk g2 HR.out); clear g2))
      all_goals first
        | (go_ret; exact ⟨9, rfl, by decide, G2.out⟩)
        | (go_roundg g
           case measure => omega
           case rel => exact ⟨G2.out, R2.out, j + 1, by omega, rfl⟩)
    | zero =>
      have hjn : ¬ (j : Int) < (k : Nat) := by omega
      obtain ⟨⟨y0, _, y2, _⟩, _⟩ := qG HR.out
      go_wp2_with fail
      go_loopg [73] k (fun g i wx => Grown w wx ∧ zx Tryz.prog wx (w.heap.size, 0, 0) 152 [.int .i64 6, .int .i64 0, .slice p1 k c1, .slice p2 m c2] ∧ ∃ j : Nat, j + g = k ∧ i = .int .i64 j)
      case atStart => exact ⟨HG.out, HR.out, 0, by omega, rfl⟩
      case round =>
        obtain ⟨hg, hr, j, hj, rfl⟩ := hrel
        have HG2 := Lib.hid hg
        have HR2 := Lib.hid hr
        clear hg hr
        cases gk with
        | succ g =>
          have hjn : (j : Int) < (k : Nat) := by omega
          have hjl : j < rs.length := by have := HK.out; omega
          have hj0 : (0 : Int) ≤ (j : Int) := by omega
          have hjc : (j : Int) ≤ (c1 : Int) := by omega
          obtain ⟨x, hx, hx12⟩ := HRS.out _ (List.getElem_mem hjl)
          have CT := Lib.hid ((C1.out.grown HG2.out).take j)
          obtain ⟨b, o, rfl, hc⟩ := (C1.out.grown HG2.out) (fun e => by rw [e] at hjl; cases hjl)
          have hcell := hc j _ (List.getElem?_eq_getElem hjl)
          rw [hx] at hcell
          obtain ⟨⟨x0, _, x2, _⟩, _⟩ := qG HR2.out
          have HT : RowKit.Hid ((rs.take j).length = j) := Lib.hid (by rw [List.length_take]; omega)
          have HU : RowKit.Hid (∀ u ∈ rs.take j, ∃ x, u = Value.string x) := Lib.hid (fun u m => by obtain ⟨x, e, _⟩ := HRS.out u (List.mem_of_mem_take m); exact ⟨x, e⟩)
          clear hc hx
          go_wp2_with (first
            | (go_at_call 189; (with_reducible refine (Zb CT.out HT.out HU.out (by omega)).mono ?_); rintro e w2 ⟨kk, rfl, rfl⟩))
          all_goals first
            | (go_ret; exact ⟨5, rfl, by decide, HG2.out⟩)
            | (go_roundg g
               case measure => omega
               case rel => exact ⟨HG2.out, HR2.out, j + 1, by omega, rfl⟩)
        | zero =>
          have hjn : ¬ (j : Int) < (k : Nat) := by omega
          obtain ⟨⟨x0, x1, _, _⟩, _⟩ := qG HR2.out
          go_wp2_with fail
          go_ret
          exact ⟨0, rfl, by decide, HG2.out⟩
theorem xN {w : World} {p1 p2 : Option Addr} {c1 c2 m : Nat} {rs : List Value} {k : Nat} (k1 : 1 ≤ k) (k4 : k ≤ 4) (hm : m = yi 5) (hc1 : Cs w p1 rs) (hk : rs.length = k) (hcap : k ≤ c1) (hrs : ∀ r ∈ rs, Vd r) : Calls Tryz.prog 264 #[.agg #[.int .i64 5, .int .i64 0, .slice p1 k c1, .slice p2 m c2]] w (Zg 100 w) := by
  have a1 : ¬ (k : Int) < 1 := by omega
  have a2 : ¬ (8 : Int) < k := by omega
  have few : k ≤ 4 := by omega
  have hcapI : ((k : Nat) : Int) ≤ (c1 : Int) := by omega
  have C1 := Lib.hid hc1
  have HRS := Lib.hid hrs
  have HK := Lib.hid hk
  have HM := Lib.hid hm
  have K0 := Lib.hid (k1)
  clear hc1 hrs hk hm
  go_enter Tryz.func264, Tryz.ntmps264
  go_wp2_with fail
  go_quiet (first | (go_at_call 340; exact Calls.quiet_of_same (JJ HM.out)))
  go_wp2_with fail
  have G0 := Lib.hid ((za w (.cells #[.int .i64 5, .int .i64 0, .slice p1 k c1, .slice p2 m c2] 152)).trans' (ql _ nq))
  have R0 := Lib.hid (zk (ql _ nq) (zn w (z := #[.int .i64 5, .int .i64 0, .slice p1 k c1, .slice p2 m c2]) (t := 152)))
  go_loopg [62] k (fun g i wx => Grown w wx ∧ zx Tryz.prog wx (w.heap.size, 0, 0) 152 [.int .i64 5, .int .i64 0, .slice p1 k c1, .slice p2 m c2] ∧ ∃ j : Nat, j + g = k ∧ i = .int .i64 j)
  case atStart => exact ⟨G0.out, R0.out, 0, by omega, rfl⟩
  case round =>
    obtain ⟨hg, hr, j, hj, rfl⟩ := hrel
    have HG := Lib.hid hg
    have HR := Lib.hid hr
    clear hg hr
    cases gk with
    | succ g =>
      have hjn : (j : Int) < (k : Nat) := by omega
      have hjl : j < rs.length := by have := HK.out; omega
      obtain ⟨x, hx, hx12⟩ := HRS.out _ (List.getElem_mem hjl)
      obtain ⟨b, o, rfl, hc⟩ := (C1.out.grown HG.out) (fun e => by rw [e] at hjl; cases hjl)
      have hcell := hc j _ (List.getElem?_eq_getElem hjl)
      rw [hx] at hcell
      clear hc hx
      go_wp2_with (first
        | (go_at_call 134; (with_reducible refine (Qv (by omega)).mono ?_); rintro e w2 ⟨bb, rfl, g2⟩; have G2 := Lib.hid (HG.out.trans' g2); have R2 := Lib.hid (zk g2 HR.out); clear g2))
      all_goals first
        | (go_ret; exact ⟨9, rfl, by decide, G2.out⟩)
        | (go_roundg g
           case measure => omega
           case rel => exact ⟨G2.out, R2.out, j + 1, by omega, rfl⟩)
    | zero =>
      have hjn : ¬ (j : Int) < (k : Nat) := by omega
      obtain ⟨⟨y0, _, y2, _⟩, _⟩ := qG HR.out
      go_wp2_with fail
      go_loopg [73] k (fun g i wx => Grown w wx ∧ zx Tryz.prog wx (w.heap.size, 0, 0) 152 [.int .i64 5, .int .i64 0, .slice p1 k c1, .slice p2 m c2] ∧ ∃ j : Nat, j + g = k ∧ i = .int .i64 j)
      case atStart => exact ⟨HG.out, HR.out, 0, by omega, rfl⟩
      case round =>
        obtain ⟨hg, hr, j, hj, rfl⟩ := hrel
        have HG2 := Lib.hid hg
        have HR2 := Lib.hid hr
        clear hg hr
        cases gk with
        | succ g =>
          have hjn : (j : Int) < (k : Nat) := by omega
          have hjl : j < rs.length := by have := HK.out; omega
          have hj0 : (0 : Int) ≤ (j : Int) := by omega
          have hjc : (j : Int) ≤ (c1 : Int) := by omega
          obtain ⟨x, hx, hx12⟩ := HRS.out _ (List.getElem_mem hjl)
          have CT := Lib.hid ((C1.out.grown HG2.out).take j)
          obtain ⟨b, o, rfl, hc⟩ := (C1.out.grown HG2.out) (fun e => by rw [e] at hjl; cases hjl)
          have hcell := hc j _ (List.getElem?_eq_getElem hjl)
          rw [hx] at hcell
          obtain ⟨⟨x0, _, x2, _⟩, _⟩ := qG HR2.out
          have HT : RowKit.Hid ((rs.take j).length = j) := Lib.hid (by rw [List.length_take]; omega)
          have HU : RowKit.Hid (∀ u ∈ rs.take j, ∃ x, u = Value.string x) := Lib.hid (fun u m => by obtain ⟨x, e, _⟩ := HRS.out u (List.mem_of_mem_take m); exact ⟨x, e⟩)
          clear hc hx
          go_wp2_with (first
            | (go_at_call 189; (with_reducible refine (Zb CT.out HT.out HU.out (by omega)).mono ?_); rintro e w2 ⟨kk, rfl, rfl⟩))
          all_goals first
            | (go_ret; exact ⟨5, rfl, by decide, HG2.out⟩)
            | (go_roundg g
               case measure => omega
               case rel => exact ⟨HG2.out, HR2.out, j + 1, by omega, rfl⟩)
        | zero =>
          have hjn : ¬ (j : Int) < (k : Nat) := by omega
          obtain ⟨⟨x0, x1, _, _⟩, _⟩ := qG HR2.out
          go_wp2_with fail
          go_ret
          exact ⟨0, rfl, by decide, HG2.out⟩
end MK
end
end Go.AEv
