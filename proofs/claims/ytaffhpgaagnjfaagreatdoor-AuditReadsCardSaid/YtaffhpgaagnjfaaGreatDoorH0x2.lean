/- Trails: H0x2. Conditions: each theorem's. -/
import Derived.Test.YtaffhpgaagnjfaaGreatDoorL0a
set_option linter.all false
open Go.Proofs
namespace Go.AEv
def zfV:QX 1=true:=U
end Go.AEv
