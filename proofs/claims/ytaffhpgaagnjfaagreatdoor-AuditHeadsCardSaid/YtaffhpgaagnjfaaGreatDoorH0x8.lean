/- Trails of an audit: contracts of the calls, and runs of the evaluator (part H0x8). Conditions: those of each theorem. -/
import Derived.Test.YtaffhpgaagnjfaaGreatDoorL0a
namespace Go.AEv
open Go.Proofs
theorem zhF:zew 1=true:=by kernel_rfl
theorem zxh:zew 2=true:=by kernel_rfl
theorem zxg:zew 3=true:=by kernel_rfl
theorem zaw:zqv=true:=by kernel_rfl
theorem zfl:zqw=true:=by kernel_rfl
theorem zoV:Jb zlw (rng 0 6)=true:=by kernel_rfl
theorem zve:zkb true=true:=by kernel_rfl
theorem zvf:zkb false=true:=by kernel_rfl
theorem zuB:YW 1=true:=by kernel_rfl
theorem zuA:YW 2=true:=by kernel_rfl
theorem zuz:YW 3=true:=by kernel_rfl
theorem zuy:YW 4=true:=by kernel_rfl
theorem zux:YW 5=true:=by kernel_rfl
theorem zr6:zdp=true:=by kernel_rfl
theorem zuC:zn6=true:=by kernel_rfl
theorem zqG:Yf 0 0=true:=by kernel_rfl
theorem zqF:Yf 0 1=true:=by kernel_rfl
theorem zqE:Yf 1 0=true:=by kernel_rfl
theorem zqD:Yf 1 1=true:=by kernel_rfl
end Go.AEv
namespace Go.AEv
theorem zp8:EN.qc 2 false false false=true:=by kernel_rfl
theorem zp7:EN.qc 2 false false true=true:=by kernel_rfl
theorem zp6:EN.qc 2 false true false=true:=by kernel_rfl
theorem zp5:EN.qc 2 false true true=true:=by kernel_rfl
theorem zp4:EN.qc 2 true false false=true:=by kernel_rfl
theorem zp3:EN.qc 2 true false true=true:=by kernel_rfl
theorem zp2:EN.qc 2 true true false=true:=by kernel_rfl
theorem zp1:EN.qc 2 true true true=true:=by kernel_rfl
end Go.AEv
