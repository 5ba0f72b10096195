/- A transaction whose frame would be too long: closed facts of one start of the row (the world in which the listed variables are laid). Conditions: none. -/
import Derived.Test.YtjgkfgdpcohfmaaGreatDoorRows
import Derived.LaidMore
import Derived.Lay
import Derived.LaidLaws
import Derived.Stop.Joined
import Derived.KernelRfl
namespace Go.Proofs.YtjgkfgdpcohfmaaGreatDoor
open Go
theorem wo (os : Os) : Input.okWideB Tryz.prog ((World.laidAll Tryz.prog os Rows.logLimitsRow.laid).forCall (fun _ _ => 0) ⟨#[], #[.int .u16 0, .int .u16 0, .bool false], []⟩) 3 ⟨#[], #[.int .u16 0, .int .u16 0, .bool false], []⟩ = true := by kernel_rfl
theorem wp (os : Os) (H : Type) (enc : TypeId × Value → H) : Rows.logLimitsSpec.preB enc Tryz.prog Tryz.f3 [] false ((World.laidAll Tryz.prog os Rows.logLimitsRow.laid).forCall (fun _ _ => 0) ⟨#[], #[.int .u16 0, .int .u16 0, .bool false], []⟩).memory #[.int .u16 0, .int .u16 0, .bool false] 8 = true := by kernel_rfl
theorem ws (os : Os) (H : Type) (enc : TypeId × Value → H) : Rows.logLimitsSpec.sizedB enc Tryz.prog Tryz.f3 false ((World.laidAll Tryz.prog os Rows.logLimitsRow.laid).forCall (fun _ _ => 0) ⟨#[], #[.int .u16 0, .int .u16 0, .bool false], []⟩).memory #[.int .u16 0, .int .u16 0, .bool false] 8 = true := by kernel_rfl
end Go.Proofs.YtjgkfgdpcohfmaaGreatDoor
