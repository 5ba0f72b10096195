/- Many tenants: the opening call of the chapter answers true. Conditions: none. -/
import Derived.Test.YtfkigkddlgnmcaaGreatDoorTM0
namespace Go.AEv
theorem chk1 : chkLit E1 1000000 4 [] 60 (.bool true) = true := by kernel_rfl
end Go.AEv
