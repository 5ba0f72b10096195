/- Trails of an audit: contracts of the calls, and runs of the evaluator (part H0x9). Conditions: those of each theorem. -/
import Derived.Test.YtaffhpgaagnjfaaGreatDoorL0a
namespace Go.AEv
theorem zuZ:KV.ZP ((List.range 4).map fun k=>Nat.add 65 k)=true:=by kernel_rfl
theorem zuY:KV.ZP ((List.range 4).map fun k=>Nat.add 69 k)=true:=by kernel_rfl
end Go.AEv
namespace Go.AEv
theorem ztN:RH.run 6 0 []=true:=by kernel_rfl
theorem ztM:(fun (b0 b1:zo)=>RH.run 6 1 [b0,b1])=fun _ _=>true:=by kernel_rfl
theorem ztL:(fun (b0 b1 b2 b3:zo)=>RH.run 6 2 [b0,b1,b2,b3])=fun _ _ _ _=>true:=by kernel_rfl
theorem ztK:(fun (b0 b1 b2 b3 b4 b5:zo)=>RH.run 6 3 [b0,b1,b2,b3,b4,b5])=fun _ _ _ _ _ _=>true:=by kernel_rfl
theorem ztJ:(fun (b0 b1 b2 b3 b4 b5 b6 b7:zo)=>RH.run 6 4 [b0,b1,b2,b3,b4,b5,b6,b7])=fun _ _ _ _ _ _ _ _=>true:=by kernel_rfl
theorem ztI:(fun (b0 b1 b2 b3 b4 b5 b6 b7 b8 b9:zo)=>RH.run 6 5 [b0,b1,b2,b3,b4,b5,b6,b7,b8,b9])=fun _ _ _ _ _ _ _ _ _ _=>true:=by kernel_rfl
theorem ztH:(fun (b0 b1 b2 b3 b4 b5 b6 b7 b8 b9 b10 b11:zo)=>RH.run 6 6 [b0,b1,b2,b3,b4,b5,b6,b7,b8,b9,b10,b11])=fun _ _ _ _ _ _ _ _ _ _ _ _=>true:=by kernel_rfl
theorem ztG:RH.run 7 0 []=true:=by kernel_rfl
theorem ztF:(fun (b0 b1:zo)=>RH.run 7 1 [b0,b1])=fun _ _=>true:=by kernel_rfl
theorem ztE:(fun (b0 b1 b2 b3:zo)=>RH.run 7 2 [b0,b1,b2,b3])=fun _ _ _ _=>true:=by kernel_rfl
theorem ztD:(fun (b0 b1 b2 b3 b4 b5:zo)=>RH.run 7 3 [b0,b1,b2,b3,b4,b5])=fun _ _ _ _ _ _=>true:=by kernel_rfl
theorem ztC:(fun (b0 b1 b2 b3 b4 b5 b6 b7:zo)=>RH.run 7 4 [b0,b1,b2,b3,b4,b5,b6,b7])=fun _ _ _ _ _ _ _ _=>true:=by kernel_rfl
theorem ztB:(fun (b0 b1 b2 b3 b4 b5 b6 b7 b8 b9:zo)=>RH.run 7 5 [b0,b1,b2,b3,b4,b5,b6,b7,b8,b9])=fun _ _ _ _ _ _ _ _ _ _=>true:=by kernel_rfl
theorem ztA:(fun (b0 b1 b2 b3 b4 b5 b6 b7 b8 b9 b10 b11:zo)=>RH.run 7 6 [b0,b1,b2,b3,b4,b5,b6,b7,b8,b9,b10,b11])=fun _ _ _ _ _ _ _ _ _ _ _ _=>true:=by kernel_rfl
theorem ztz:(fun (b0 b1 b2 b3 b4 b5 b6 b7 b8 b9 b10 b11 b12 b13:zo)=>RH.run 7 7 [b0,b1,b2,b3,b4,b5,b6,b7,b8,b9,b10,b11,b12,b13])=fun _ _ _ _ _ _ _ _ _ _ _ _ _ _=>true:=by kernel_rfl
end Go.AEv
