/- Trails of an audit: calls and runs (H0x24). Conditions: those of each theorem. -/
import Derived.Test.YtaffhpgaagnjfaaGreatDoorL0a
namespace Go.AEv
theorem ck0:JQ CK.JK (List.range 12)=true:=by kernel_rfl
theorem ckz:CK.Uo=true:=by kernel_rfl
theorem zAj:CK.zz 0 0=true:=by kernel_rfl
theorem zAi:CK.zz 0 1=true:=by kernel_rfl
theorem zAh:CK.zz 0 2=true:=by kernel_rfl
theorem zAg:CK.zz 0 3=true:=by kernel_rfl
theorem zAf:CK.zz 0 4=true:=by kernel_rfl
theorem zAe:CK.zz 0 5=true:=by kernel_rfl
theorem zAd:CK.zz 1 0=true:=by kernel_rfl
theorem zAc:CK.zz 1 1=true:=by kernel_rfl
theorem zAb:CK.zz 1 2=true:=by kernel_rfl
theorem zAa:CK.zz 1 3=true:=by kernel_rfl
theorem zz9:CK.zz 1 4=true:=by kernel_rfl
theorem zz8:CK.zz 1 5=true:=by kernel_rfl
theorem zz7:CK.zz 2 0=true:=by kernel_rfl
theorem zz6:CK.zz 2 1=true:=by kernel_rfl
theorem zz5:CK.zz 2 2=true:=by kernel_rfl
theorem zz4:CK.zz 2 3=true:=by kernel_rfl
theorem zz3:CK.zz 2 4=true:=by kernel_rfl
theorem zz2:CK.zz 2 5=true:=by kernel_rfl
theorem zuO:EN.ql 0 false false false=true:=by kernel_rfl
theorem zuN:EN.ql 0 false false true=true:=by kernel_rfl
theorem zuM:EN.ql 0 false true false=true:=by kernel_rfl
theorem zuL:EN.ql 0 false true true=true:=by kernel_rfl
theorem zuK:EN.ql 0 true false false=true:=by kernel_rfl
theorem zuJ:EN.ql 0 true false true=true:=by kernel_rfl
theorem zuI:EN.ql 0 true true false=true:=by kernel_rfl
theorem zuH:EN.ql 0 true true true=true:=by kernel_rfl
theorem enz:EN.Sh.chk ⟨0,0,true,true,false,false⟩=true:=by kernel_rfl
end Go.AEv
