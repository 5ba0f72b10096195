/- An operator of an expression is checked, whatever it is; an expression is checked. Conditions: the tree lies in memory. -/
import Derived.Test.YtmlimgmmpjhifaaGreatDoorH1x0
set_option maxHeartbeats 8000000
set_option maxRecDepth 100000
set_option linter.all false
namespace Go.AEv
section
open Go Go.Proofs TR
namespace MK
open Go.AEv.GT (zO qq)
def tE (op n:Int) (k:Nat):Prop:=(op=1∨n=0)∧(op=4∨op=6→k=1)∧(op=5→1≤k)∧(op≠4→op≠5→op≠6→k=0)
theorem nk {w:World}{op n:Int}{p1 p2:Option Addr}{k c1 c2 m:Nat} (hg:¬ tE op n k) (k4:k≤4) (h1:1≤op) (h16:op≤16) (hm:m=yi op):Calls Tryz.prog 264 #[.agg #[.int .i64 op,.int .i64 n,.slice p1 k c1,.slice p2 m c2]] w (Zg 100 w):=by
 have a1:¬ op<1:=by omega
 have a2:¬ 16<op:=by omega
 have a3:¬ (k:Int)<0:=by omega
 have a4:¬ (8:Int)<(k:Int):=by omega
 have HM:=Lib.hid hm
 have HGD:=Lib.hid hg
 clear hm hg
 go_enter Tryz.func264,Tryz.ntmps264
 go_wp2_with fail
 go_quiet (first | (go_at_call 340;exact Calls.quiet_of_same (JJ HM.out)))
 go_wp2_with fail
 all_goals first
  | (go_ret;exact ⟨6,rfl,by decide,(za _ _).trans' (ql _ nq)⟩)
  | (exfalso;have:=HGD.out;unfold tE at this;simp at *;omega)
end MK
end
end Go.AEv
