/- The program's form of a change; no bytes and no text of one that is refused. Conditions: its fields are small. -/
import Derived.Test.YtmlimgmmpjhifaaGreatDoorH12x0
set_option maxHeartbeats 8000000
set_option maxRecDepth 100000
set_option linter.all false
namespace Go.AEv
section
open Go Go.Proofs TR
namespace MK
open Go.AEv.GT (zO qq)
open RD (qe)
attribute [local go_sem ↓] Go.wp_at_zero Go.wp_at_succ
theorem BK {w:World}{x:Ch} (hx:x.Ok):Calls Tryz.prog 10 #[.agg x.cells.toArray] w (GrV (.agg (qm x).cells.toArray) w):=by
 rw [gT hx]
 have hw:x.k % 256=x.k:=by have:=hx.k0;have:=hx.k1;omega
 go_enter Tryz.func10,Tryz.ntmps10
 go_wp2
 refine bodyPost_ret (zI (p:=2) (ty:=34) rfl _ _ (w.heap.size+1) _ _ rfl (zS (jS (by rw [zQ]))) under34 rfl ZB) rfl ?_
 exact ⟨rfl,(za _ _).trans' (za _ _)⟩
theorem hJ {w:World}{c:Pc} (hc:Nrz c) (hk:1≤c.k) (hf:Qb c=false):Calls Tryz.prog 11 #[.agg c.cells.toArray] w (GrV (.slice none 0 0) w):=by
 have HC:=Lib.hid hc
 go_enter Tryz.func11,Tryz.ntmps11
 go_wp2_with (first
  | (go_at_call 15;(with_reducible refine (l7 HC.out hk).mono ?_);rintro e w2 ⟨e1,g2⟩;rw [hf]at e1;subst e1;have G2:=Lib.hid ((za w (.cells c.cells.toArray 34)).trans' g2);clear g2))
 go_ret
 exact ⟨rfl,G2.out⟩
theorem mF {w:World}{c:Pc} (hc:Nrz c) (hk:1≤c.k) (hf:Qb c=false):Calls Tryz.prog 12 #[.agg c.cells.toArray] w (GrV (.string ⟨#[]⟩) w):=by
 have HC:=Lib.hid hc
 go_enter Tryz.func12,Tryz.ntmps12
 go_wp2_with (first
  | (go_at_call 15;(with_reducible refine (l7 HC.out hk).mono ?_);rintro e w2 ⟨e1,g2⟩;rw [hf]at e1;subst e1;have G2:=Lib.hid ((za w (.cells c.cells.toArray 34)).trans' g2);clear g2))
 go_ret
 exact ⟨rfl,G2.out⟩
end MK
end
end Go.AEv
