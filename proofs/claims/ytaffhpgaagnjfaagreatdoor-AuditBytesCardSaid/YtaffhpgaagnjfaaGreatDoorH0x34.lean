/- Trails of an audit: calls and runs (H0x34). Conditions: those of each theorem. -/
import Derived.Test.YtaffhpgaagnjfaaGreatDoorL0a
open Go.World Go.Proofs.Tryz
namespace Go.AEv
theorem zz1:CK.zz 3 0=true:=by kernel_rfl
theorem zz0:CK.zz 3 1=true:=by kernel_rfl
theorem zzZ:CK.zz 3 2=true:=by kernel_rfl
theorem zzY:CK.zz 3 3=true:=by kernel_rfl
theorem zzX:CK.zz 3 4=true:=by kernel_rfl
theorem zzW:CK.zz 3 5=true:=by kernel_rfl
theorem zzV:CK.zz 4 0=true:=by kernel_rfl
theorem zzU:CK.zz 4 1=true:=by kernel_rfl
theorem zzT:CK.zz 4 2=true:=by kernel_rfl
theorem zzS:CK.zz 4 3=true:=by kernel_rfl
theorem zzR:CK.zz 4 4=true:=by kernel_rfl
theorem zzQ:CK.zz 4 5=true:=by kernel_rfl
theorem zDv:AP.Yr 0=true:=by kernel_rfl
theorem zDu:AP.Yr 1=true:=by kernel_rfl
theorem zDt:AP.Yr 2=true:=by kernel_rfl
theorem zDs:AP.Yr 3=true:=by kernel_rfl
theorem zDr:AP.Yr 4=true:=by kernel_rfl
theorem zDq:AP.Yr 5=true:=by kernel_rfl
theorem zDp:AP.Yr 6=true:=by kernel_rfl
theorem zDo:AP.Yr 7=true:=by kernel_rfl
theorem zDn:AP.Yr 8=true:=by kernel_rfl
theorem zDm:AP.Yq 0=true:=by kernel_rfl
theorem zDl:AP.Yq 1=true:=by kernel_rfl
theorem zDk:AP.Yq 2=true:=by kernel_rfl
theorem zDj:AP.Yq 3=true:=by kernel_rfl
theorem zDi:AP.Yq 4=true:=by kernel_rfl
theorem zDh:AP.Yq 5=true:=by kernel_rfl
end Go.AEv
namespace Go.Proofs.YtaffhpgaagnjfaaGreatDoor
open Go
theorem wf(os:Os):(holding prog os ⟨#[],#[],[]⟩).layFits prog Rows.auditBytesRow.laid []=true:=by kernel_rfl
theorem wi(os:Os):(holding prog os ⟨#[],#[],[]⟩).layIfaces prog Rows.auditBytesRow.laid (laidAll prog os Rows.auditBytesRow.laid)=true:=by kernel_rfl
theorem wn:(Rows.auditBytesRow.laid.all fun x=>x.2.handleName?.isNone)=true:=by kernel_rfl
end Go.Proofs.YtaffhpgaagnjfaaGreatDoor
