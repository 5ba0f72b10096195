/- Trails of an audit: contracts of the calls, and runs of the evaluator (part H0x25). Conditions: those of each theorem. -/
import Derived.Test.YtaffhpgaagnjfaaGreatDoorL0a
namespace Go.AEv
open Go.Proofs
theorem zsW:zae 0=true:=by kernel_rfl
theorem zsT:(fun b0 b1=>zad b0 b1 0)=fun _ _=>true:=by kernel_rfl
theorem zsV:zae 1=true:=by kernel_rfl
theorem zsS:(fun b0 b1=>zad b0 b1 1)=fun _ _=>true:=by kernel_rfl
theorem zsU:zae 2=true:=by kernel_rfl
theorem zsR:(fun b0 b1=>zad b0 b1 2)=fun _ _=>true:=by kernel_rfl
end Go.AEv
namespace Go.AEv
theorem zxy:KS.ZP ((List.range 16).map fun k=>Nat.add 89 k)=true:=by kernel_rfl
end Go.AEv
