/- Trails of an audit: contracts of the calls, and runs of the evaluator (part H0x11). Conditions: those of each theorem. -/
import Derived.Test.YtaffhpgaagnjfaaGreatDoorL0a
import Derived.Test.YtaffhpgaagnjfaaGreatDoorRows
import Derived.LaidMore
import Derived.Lay
import Derived.LaidLaws
import Derived.Stop.Joined
import Derived.KernelRfl
namespace Go.AEv
theorem zuN:KV.ZP ((List.range 4).map fun k=>Nat.add 113 k)=true:=by kernel_rfl
theorem zuM:KV.ZP ((List.range 4).map fun k=>Nat.add 117 k)=true:=by kernel_rfl
end Go.AEv
namespace Go.Proofs.YtaffhpgaagnjfaaGreatDoor
open Go
theorem wf (os:Os):(World.holding Tryz.prog os ⟨#[],#[],[]⟩).layFits Tryz.prog Rows.auditHeadsRow.laid []=true:=by kernel_rfl
theorem wi (os:Os):(World.holding Tryz.prog os ⟨#[],#[],[]⟩).layIfaces Tryz.prog Rows.auditHeadsRow.laid (World.laidAll Tryz.prog os Rows.auditHeadsRow.laid)=true:=by kernel_rfl
theorem wn:(Rows.auditHeadsRow.laid.all fun x=>x.2.handleName?.isNone)=true:=by kernel_rfl
end Go.Proofs.YtaffhpgaagnjfaaGreatDoor
