/- The forms of changes: the chapter's opening call answers true. Conditions: none. -/
import Derived.Test.YteokcfkggfapkaaGreatDoorCC1
namespace Go.AEv
theorem chk1 : chkLit E1 1000000 4 [] 60 (.bool true) = true := by kernel_rfl
end Go.AEv
