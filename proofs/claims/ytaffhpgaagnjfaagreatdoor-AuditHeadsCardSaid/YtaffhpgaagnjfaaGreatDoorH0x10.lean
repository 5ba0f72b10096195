/- Trails of an audit: contracts of the calls, and runs of the evaluator (part H0x10). Conditions: those of each theorem. -/
import Derived.Test.YtaffhpgaagnjfaaGreatDoorL0a
import Derived.Test.YtaffhpgaagnjfaaGreatDoorRows
import Derived.LaidMore
import Derived.Lay
import Derived.LaidLaws
import Derived.Stop.Joined
import Derived.KernelRfl
namespace Go.AEv
theorem zuP:KV.ZP ((List.range 4).map fun k=>Nat.add 105 k)=true:=by kernel_rfl
theorem zuO:KV.ZP ((List.range 4).map fun k=>Nat.add 109 k)=true:=by kernel_rfl
end Go.AEv
namespace Go.Proofs.YtaffhpgaagnjfaaGreatDoor
open Go
theorem wz (os:Os):((World.laidAll Tryz.prog os Rows.auditHeadsRow.laid).forCall (fun _ _=>0) ⟨#[],#[.slice none 0 0,.int .i64 0],[]⟩).variablesZipB Tryz.prog=true:=by kernel_rfl
theorem wh (os:Os):(((World.laidAll Tryz.prog os Rows.auditHeadsRow.laid).forCall (fun _ _=>0) ⟨#[],#[.slice none 0 0,.int .i64 0],[]⟩).heap.toList.drop Tryz.prog.globals.size).take ((begin Tryz.prog (fun _ _=>0) default).world.heap.size-Tryz.prog.globals.size)=(begin Tryz.prog (fun _ _=>0) default).world.heap.toList.drop Tryz.prog.globals.size:=by kernel_rfl
end Go.Proofs.YtaffhpgaagnjfaaGreatDoor
