/- Trails: H1x3. Conditions: each theorem's. -/
import Derived.Test.YtaffhpgaagnjfaaGreatDoorL1a
set_option linter.all false
namespace Go.AEv
def zi5:KS.Ha ((List.range 16).map λk=>Nat.add 57 k)=true:=U
def zi1:KS.Ha ((List.range 12).map λk=>Nat.add 105 k)=true:=U
end Go.AEv
