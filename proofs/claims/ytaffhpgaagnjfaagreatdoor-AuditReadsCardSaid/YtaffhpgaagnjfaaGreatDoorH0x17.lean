/- Trails: H0x17. Conditions: each theorem's. -/
import Derived.Test.YtaffhpgaagnjfaaGreatDoorL0a
set_option linter.all false
open Go.Proofs
namespace Go.AEv
def zfU:QX 2=true:=U
end Go.AEv
