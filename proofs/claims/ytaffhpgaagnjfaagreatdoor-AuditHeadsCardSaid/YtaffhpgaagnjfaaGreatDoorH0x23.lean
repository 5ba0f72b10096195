/- Which records are equal: a piece of the opening call (the permutation). Conditions: none. -/
import Derived.Test.YtaffhpgaagnjfaaGreatDoorL0a
namespace Go.AEv
open Go.Proofs
theorem zug:Qd 4=true:=by kernel_rfl
end Go.AEv
