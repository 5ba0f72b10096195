/- A transaction whose frame would be too long: closed facts of one start of the row (the world in which the listed variables are laid). Conditions: none. -/
import Derived.Test.YtjgkfgdpcohfmaaGreatDoorRows
import Derived.LaidMore
import Derived.Lay
import Derived.LaidLaws
import Derived.Stop.Joined
import Derived.KernelRfl
namespace Go.Proofs.YtjgkfgdpcohfmaaGreatDoor
open Go
theorem wz (os : Os) : ((World.laidAll Tryz.prog os Rows.logLimitsRow.laid).forCall (fun _ _ => 0) ⟨#[], #[.int .u16 0, .int .u16 0, .bool false], []⟩).variablesZipB Tryz.prog = true := by kernel_rfl
theorem wh (os : Os) : (((World.laidAll Tryz.prog os Rows.logLimitsRow.laid).forCall (fun _ _ => 0) ⟨#[], #[.int .u16 0, .int .u16 0, .bool false], []⟩).heap.toList.drop Tryz.prog.globals.size).take ((begin Tryz.prog (fun _ _ => 0) default).world.heap.size - Tryz.prog.globals.size) = (begin Tryz.prog (fun _ _ => 0) default).world.heap.toList.drop Tryz.prog.globals.size := by kernel_rfl
end Go.Proofs.YtjgkfgdpcohfmaaGreatDoor
