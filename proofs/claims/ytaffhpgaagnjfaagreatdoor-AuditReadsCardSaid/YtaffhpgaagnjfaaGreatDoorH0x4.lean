/- Trails: H0x4. Conditions: each theorem's. -/
import Derived.Test.YtaffhpgaagnjfaaGreatDoorL0a
set_option linter.all false
open Go.Proofs
namespace Go.AEv
def zfW:QX 0=true:=U
end Go.AEv
