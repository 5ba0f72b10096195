/- Which records are equal: closed facts of one start of the row (the world in which the listed variables are laid). Conditions: none. -/
import Derived.Test.YthhjhddekambcaaGreatDoorRows
import Derived.LaidMore
import Derived.Lay
import Derived.LaidLaws
import Derived.Stop.Joined
import Derived.KernelRfl
namespace Go.Proofs.YthhjhddekambcaaGreatDoor
open Go
theorem wz (os : Os) : ((World.laidAll Tryz.prog os Rows.auditEqualRow.laid).forCall (fun _ _ => 0) ⟨#[], #[.agg #[.int .u8 0, .int .u8 0, .int .u8 0, .int .u8 0, .int .u8 0, .int .u8 0, .int .u8 0, .bool false, .bool false, .int .u8 0, .int .u8 0, .slice none 0 0, .slice none 0 0, .bool false], .agg #[.int .u8 0, .int .u8 0, .int .u8 0, .int .u8 0, .int .u8 0, .int .u8 0, .int .u8 0, .bool false, .bool false, .int .u8 0, .int .u8 0, .slice none 0 0, .slice none 0 0, .bool false]], []⟩).variablesZipB Tryz.prog = true := by kernel_rfl
theorem wh (os : Os) : (((World.laidAll Tryz.prog os Rows.auditEqualRow.laid).forCall (fun _ _ => 0) ⟨#[], #[.agg #[.int .u8 0, .int .u8 0, .int .u8 0, .int .u8 0, .int .u8 0, .int .u8 0, .int .u8 0, .bool false, .bool false, .int .u8 0, .int .u8 0, .slice none 0 0, .slice none 0 0, .bool false], .agg #[.int .u8 0, .int .u8 0, .int .u8 0, .int .u8 0, .int .u8 0, .int .u8 0, .int .u8 0, .bool false, .bool false, .int .u8 0, .int .u8 0, .slice none 0 0, .slice none 0 0, .bool false]], []⟩).heap.toList.drop Tryz.prog.globals.size).take ((begin Tryz.prog (fun _ _ => 0) default).world.heap.size - Tryz.prog.globals.size) = (begin Tryz.prog (fun _ _ => 0) default).world.heap.toList.drop Tryz.prog.globals.size := by kernel_rfl
end Go.Proofs.YthhjhddekambcaaGreatDoor
