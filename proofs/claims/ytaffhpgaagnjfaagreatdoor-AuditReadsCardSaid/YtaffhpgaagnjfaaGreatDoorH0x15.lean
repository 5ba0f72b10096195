/- Trails: H0x15. Conditions: each theorem's. -/
import Derived.Test.YtaffhpgaagnjfaaGreatDoorL0a
set_option linter.all false
open Go.Proofs
namespace Go.AEv
def zfz:jb 0 0=true:=U
def zfy:jb 0 1=true:=U
def zfx:jb 0 2=true:=U
def zfw:jb 0 3=true:=U
def zfv:jb 0 4=true:=U
def zfu:jb 1 0=true:=U
def zft:jb 1 1=true:=U
def zfs:jb 1 2=true:=U
def zfr:jb 1 3=true:=U
def zfq:jb 1 4=true:=U
def zj1:uu 68 Xp=true:=U
end Go.AEv
