/- Trails of an audit: contracts of the calls, and runs of the evaluator (part H0x34). Conditions: those of each theorem. -/
import Derived.Test.YtaffhpgaagnjfaaGreatDoorL0a
import Derived.Test.YtaffhpgaagnjfaaGreatDoorCards
import Derived.SevenTiedAt
namespace Go.AEv
theorem zvE:CK.zz 3 0=true:=by kernel_rfl
theorem zvD:CK.zz 3 1=true:=by kernel_rfl
theorem zvC:CK.zz 3 2=true:=by kernel_rfl
theorem zvB:CK.zz 3 3=true:=by kernel_rfl
theorem zvA:CK.zz 3 4=true:=by kernel_rfl
theorem zvz:CK.zz 3 5=true:=by kernel_rfl
theorem zvy:CK.zz 4 0=true:=by kernel_rfl
theorem zvx:CK.zz 4 1=true:=by kernel_rfl
theorem zvw:CK.zz 4 2=true:=by kernel_rfl
theorem zvv:CK.zz 4 3=true:=by kernel_rfl
theorem zvu:CK.zz 4 4=true:=by kernel_rfl
theorem zvt:CK.zz 4 5=true:=by kernel_rfl
end Go.AEv
namespace Go.AEv
theorem zu3:KT.zbF 31 82 29 KP.tabs ((List.range 24).map fun k=>Nat.add 40 k)=true:=by kernel_rfl
end Go.AEv
namespace Go.AEv
theorem zyN:AP.JO 8=true:=by kernel_rfl
end Go.AEv
namespace Go.AEv
open Go.Proofs
theorem zxl:Q6=true:=by kernel_rfl
theorem zrC:zgA=true:=by kernel_rfl
end Go.AEv
namespace Go.Proofs.YtaffhpgaagnjfaaGreatDoor
theorem zc9 {P:Program} (h:P.funcs.any Func.goes=false) (f:FuncId):P.goes f=false:=by
 have key:∀ g:FuncId,(P.funcs[g]?).any Func.goes=false:=by
  intro g
  cases hg:P.funcs[g]? with
  | none=>rfl
  | some fn=>
   rw [Array.any_eq_false]at h
   obtain ⟨hlt,rfl⟩:=Array.getElem?_eq_some_iff.1 hg
   simpa using h g hlt
 unfold Program.goes
 rw [h,Bool.and_false,Bool.or_false,Bool.eq_false_iff]
 intro hx
 obtain ⟨g,_,hg⟩:=List.any_eq_true.1 hx
 rw [key g]at hg
 cases hg
theorem zgp {P:Program} (h:P.funcs.any Func.goes=false) (s:Start) (n:String):P.goesAt s n=false:=by
 unfold Program.goesAt Program.goesFrom
 have h1:∀ o:Option FuncId,o.any P.goes=false:=by
  intro o
  cases o with
  | none=>rfl
  | some f=>exact zc9 h f
 have h2:∀ l:List FuncId,l.any P.goes=false:=by
  intro l
  rw [Bool.eq_false_iff]
  intro hx
  obtain ⟨f,_,hf⟩:=List.any_eq_true.1 hx
  rw [zc9 h f]at hf
  cases hf
 rw [h1,Bool.false_or]
 split
 ·rfl
 ·exact h2 _
theorem znL:Tryz.prog.funcs.any Func.goes=false:=by kernel_rfl
theorem znM:false=Rows.auditHeadsRow.goesBy Tryz.prog:=(zgp znL Rows.auditHeadsRow.start Rows.auditHeadsRow.func).symm
end Go.Proofs.YtaffhpgaagnjfaaGreatDoor
