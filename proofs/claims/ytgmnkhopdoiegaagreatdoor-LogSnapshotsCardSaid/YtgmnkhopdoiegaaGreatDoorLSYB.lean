/- A great house has a snapshot of several parts: closed facts of one start of the row (the world in which the listed variables are laid). Conditions: none. -/
import Derived.Test.YtgmnkhopdoiegaaGreatDoorRows
import Derived.LaidMore
import Derived.Lay
import Derived.LaidLaws
import Derived.Stop.Joined
import Derived.KernelRfl
namespace Go.Proofs.YtgmnkhopdoiegaaGreatDoor
open Go
theorem wo (os : Os) : Input.okWideB Tryz.prog ((World.laidAll Tryz.prog os Rows.logSnapshotsRow.laid).forCall (fun _ _ => 0) ⟨#[], #[.int .u8 0, .int .u16 0], []⟩) 3 ⟨#[], #[.int .u8 0, .int .u16 0], []⟩ = true := by kernel_rfl
theorem wp (os : Os) (H : Type) (enc : TypeId × Value → H) : Rows.logSnapshotsSpec.preB enc Tryz.prog Tryz.f3 [] false ((World.laidAll Tryz.prog os Rows.logSnapshotsRow.laid).forCall (fun _ _ => 0) ⟨#[], #[.int .u8 0, .int .u16 0], []⟩).memory #[.int .u8 0, .int .u16 0] 8 = true := by kernel_rfl
theorem ws (os : Os) (H : Type) (enc : TypeId × Value → H) : Rows.logSnapshotsSpec.sizedB enc Tryz.prog Tryz.f3 false ((World.laidAll Tryz.prog os Rows.logSnapshotsRow.laid).forCall (fun _ _ => 0) ⟨#[], #[.int .u8 0, .int .u16 0], []⟩).memory #[.int .u8 0, .int .u16 0] 8 = true := by kernel_rfl
end Go.Proofs.YtgmnkhopdoiegaaGreatDoor
