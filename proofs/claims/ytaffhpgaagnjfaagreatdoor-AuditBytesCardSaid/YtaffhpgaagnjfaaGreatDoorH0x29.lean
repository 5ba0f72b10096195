/- Trails of an audit: calls and runs (H0x29). Conditions: those of each theorem. -/
import Derived.Test.YtaffhpgaagnjfaaGreatDoorL0a
open Go.World Go.Proofs.Tryz
namespace Go.AEv
section
open Go.Proofs
theorem zxW:zbP 0=true:=by kernel_rfl
theorem zxT:(fun b a=>zbO b a 0)=fun _ _=>true:=by kernel_rfl
theorem zxV:zbP 1=true:=by kernel_rfl
theorem zxS:(fun b a=>zbO b a 1)=fun _ _=>true:=by kernel_rfl
theorem zxU:zbP 2=true:=by kernel_rfl
theorem zxR:(fun b a=>zbO b a 2)=fun _ _=>true:=by kernel_rfl
end
theorem zBV:KS.Qq ((List.range 12).map fun k=>Nat.add 105 k)=true:=by kernel_rfl
end Go.AEv
namespace Go.Proofs.YtaffhpgaagnjfaaGreatDoor
open Go
theorem wz(os:Os):((laidAll prog os Rows.auditBytesRow.laid).forCall (fun _ _=>0) ⟨#[],#[.slice none 0 0,.int .u16 0],[]⟩).variablesZipB prog=true:=by kernel_rfl
theorem wh(os:Os):(((laidAll prog os Rows.auditBytesRow.laid).forCall (fun _ _=>0) ⟨#[],#[.slice none 0 0,.int .u16 0],[]⟩).heap.toList.drop Tryz.prog.globals.size).take ((begin prog (fun _ _=>0) default).world.heap.size-Tryz.prog.globals.size)=(begin prog (fun _ _=>0) default).world.heap.toList.drop Tryz.prog.globals.size:=by kernel_rfl
end Go.Proofs.YtaffhpgaagnjfaaGreatDoor
