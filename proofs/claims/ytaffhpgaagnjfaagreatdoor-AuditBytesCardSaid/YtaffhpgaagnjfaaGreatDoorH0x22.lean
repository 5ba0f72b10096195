/- Which records are equal: a piece of the opening call (the permutation). Conditions: none. -/
import Derived.Test.YtaffhpgaagnjfaaGreatDoorL0a
namespace Go.AEv
section
open Go.Proofs
theorem zys:QO 4=true:=by kernel_rfl
end
end Go.AEv
