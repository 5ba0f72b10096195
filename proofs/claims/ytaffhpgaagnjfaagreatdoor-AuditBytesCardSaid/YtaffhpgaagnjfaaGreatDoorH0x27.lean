/- Trails of an audit: calls and runs (H0x27). Conditions: those of each theorem. -/
import Derived.Test.YtaffhpgaagnjfaaGreatDoorL0a
import Derived.Test.YtaffhpgaagnjfaaGreatDoorCards
import Derived.SevenTiedAt
open Bool
namespace Go.AEv
section
open Go.Proofs
theorem zxt:zi0=true:=by kernel_rfl
end
end Go.AEv
namespace Go.Proofs.YtaffhpgaagnjfaaGreatDoor
theorem ze2{P:Program}(h:P.funcs.any Func.goes=false)(f:FuncId):P.goes f=false:=by
 have key:∀g:FuncId,(P.funcs[g]?).any Func.goes=false:=by
  intro g
  cases a:P.funcs[g]? with
  | none=>rfl
  | some fn=>
   rw[Array.any_eq_false]at h;obtain⟨b,rfl⟩:=Array.getElem?_eq_some_iff.1 a;simpa using h g b
 unfold Program.goes;rw[h,Bool.and_false,Bool.or_false,eq_false_iff];intro hx;obtain⟨g,_,a⟩:=List.any_eq_true.1 hx;rw[key g]at a;cases a
theorem ziH{P:Program}(h:P.funcs.any Func.goes=false)(s:Start)(n:String):P.goesAt s n=false:=by
 unfold Program.goesAt Program.goesFrom
 have h1:∀o:Option FuncId,o.any P.goes=false:=by
  intro o
  cases o with
  | none=>rfl
  | some f=>exact ze2 h f
 have h2:∀l:List FuncId,l.any P.goes=false:=by
  intro l;rw[eq_false_iff];intro hx;obtain⟨f,_,a⟩:=List.any_eq_true.1 hx;rw[ze2 h f]at a;cases a
 rw[h1,Bool.false_or];split
 .rfl
 .exact h2 _
theorem zrt:Tryz.prog.funcs.any Func.goes=false:=by kernel_rfl
theorem zru:false=Rows.auditBytesRow.goesBy Tryz.prog:=(ziH zrt Rows.auditBytesRow.start Rows.auditBytesRow.func).symm
end Go.Proofs.YtaffhpgaagnjfaaGreatDoor
