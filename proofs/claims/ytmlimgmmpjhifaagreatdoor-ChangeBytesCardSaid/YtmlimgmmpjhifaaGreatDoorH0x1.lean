/- The chapter's opening call: the new state. Conditions: none. -/
import Derived.Test.YtmlimgmmpjhifaaGreatDoorL0a
set_option linter.all false
namespace Go.AEv
section
open Go Go.Proofs
namespace MK
theorem Fl:sU=true:=by kernel_rfl
end MK
end
end Go.AEv
