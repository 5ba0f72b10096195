/- strings.Repeat with a count that is not negative gives so many copies: the shelf's contract, laid at this program. Conditions: the result is no longer than one allocation may be. -/
import Derived.Shelf.Strings.Repeat
import Derived.Test.YtjgkfgdpcohfmaaGreatDoorProg
namespace Go.Proofs
open Go.Shelf
def Tryz.lays105_ren : Go.Shelf.Ren := ⟨fun | 105 => 8 | 212 => 27 | 99 => 28 | 165 => 29 | 166 => 30 | 170 => 31 | 169 => 32 | 263 => 59 | 264 => 60 | 206 => 61 | 240 => 62 | 241 => 63 | 276 => 103 | 277 => 104 | n => n, fun | 9 => 9 | 3 => 3 | 4 => 4 | 20 => 20 | 0 => 0 | 46 => 72 | 109 => 73 | 5 => 5 | 72 => 78 | 76 => 82 | 51 => 123 | 146 => 131 | 53 => 87 | 148 => 133 | 70 => 76 | 37 => 43 | 75 => 81 | 127 => 135 | 164 => 185 | 80 => 84 | n => n, fun | n => n⟩
theorem Tryz.lays105 : Go.Proofs.Lays.n105 Tryz.prog Tryz.lays105_ren := {
  mixed := by kernel_rfl
  f99 := Tryz.func28.trans (congrArg some (by kernel_rfl))
  f105 := Tryz.func8.trans (congrArg some (by kernel_rfl))
  f165 := Tryz.func29.trans (congrArg some (by kernel_rfl))
  f166 := Tryz.func30.trans (congrArg some (by kernel_rfl))
  f169 := Tryz.func32.trans (congrArg some (by kernel_rfl))
  f170 := Tryz.func31.trans (congrArg some (by kernel_rfl))
  f206 := Tryz.func61.trans (congrArg some (by kernel_rfl))
  f212 := Tryz.func27.trans (congrArg some (by kernel_rfl))
  f240 := Tryz.func62.trans (congrArg some (by kernel_rfl))
  f241 := Tryz.func63.trans (congrArg some (by kernel_rfl))
  f263 := Tryz.func59.trans (congrArg some (by kernel_rfl))
  f264 := Tryz.func60.trans (congrArg some (by kernel_rfl))
  f276 := Tryz.func103.trans (congrArg some (by kernel_rfl))
  f277 := Tryz.func104.trans (congrArg some (by kernel_rfl))
  t0 := Tryz.underlying0
  a0 := Tryz.isAgg0
  z0 := Tryz.sizeOf0
  v0 := Tryz.zeroValue0
  t3 := Tryz.underlying3
  a3 := Tryz.isAgg3
  z3 := Tryz.sizeOf3
  v3 := Tryz.zeroValue3
  t4 := Tryz.underlying4
  a4 := Tryz.isAgg4
  z4 := Tryz.sizeOf4
  v4 := Tryz.zeroValue4
  t5 := Tryz.underlying5
  a5 := Tryz.isAgg5
  z5 := Tryz.sizeOf5
  v5 := Tryz.zeroValue5
  t9 := Tryz.underlying9
  a9 := Tryz.isAgg9
  z9 := Tryz.sizeOf9
  v9 := Tryz.zeroValue9
  t20 := Tryz.underlying20
  a20 := Tryz.isAgg20
  z20 := Tryz.sizeOf20
  v20 := Tryz.zeroValue20
  t37 := Tryz.underlying43
  a37 := Tryz.isAgg43
  z37 := Tryz.sizeOf43
  v37 := Tryz.zeroValue43
  t46 := Tryz.underlying72
  a46 := Tryz.isAgg72
  z46 := Tryz.sizeOf72
  v46 := Tryz.zeroValue72
  t51 := Tryz.underlying123
  a51 := Tryz.isAgg123
  z51 := Tryz.sizeOf123
  v51 := Tryz.zeroValue123
  t53 := Tryz.underlying87
  a53 := Tryz.isAgg87
  z53 := Tryz.sizeOf87
  v53 := Tryz.zeroValue87
  t70 := Tryz.underlying76
  a70 := Tryz.isAgg76
  z70 := Tryz.sizeOf76
  v70 := Tryz.zeroValue76
  t72 := Tryz.underlying78
  a72 := Tryz.isAgg78
  z72 := Tryz.sizeOf78
  v72 := Tryz.zeroValue78
  t75 := Tryz.underlying81
  a75 := Tryz.isAgg81
  z75 := Tryz.sizeOf81
  v75 := Tryz.zeroValue81
  t76 := Tryz.underlying82
  a76 := Tryz.isAgg82
  z76 := Tryz.sizeOf82
  v76 := Tryz.zeroValue82
  t109 := Tryz.underlying73
  a109 := Tryz.isAgg73
  z109 := Tryz.sizeOf73
  v109 := Tryz.zeroValue73
  t127 := Tryz.underlying135
  a127 := Tryz.isAgg135
  z127 := Tryz.sizeOf135
  v127 := Tryz.zeroValue135
  t146 := Tryz.underlying131
  a146 := Tryz.isAgg131
  z146 := Tryz.sizeOf131
  v146 := Tryz.zeroValue131
  t148 := Tryz.underlying133
  a148 := Tryz.isAgg133
  z148 := Tryz.sizeOf133
  v148 := Tryz.zeroValue133
  t164 := Tryz.underlying185
  a164 := Tryz.isAgg185
  z164 := Tryz.sizeOf185
  v164 := Tryz.zeroValue185 }
theorem Tryz.Builder_Extra_105 : Builder.Extra Tryz.prog Tryz.lays105_ren := {
  sizeBuilder := by kernel_rfl
  liesBuilder := by kernel_rfl
  t5 := Tryz.underlying5
  a5 := Tryz.isAgg5
  z5 := Tryz.sizeOf5
  v5 := Tryz.zeroValue5
  infoByte := by kernel_rfl
  cellsByte := by kernel_rfl
  sizeByte := by kernel_rfl
  neB5 := by decide }
open Go.RowKit Go.Lib in
/-- **strings.Repeat: count ≥ 0, the result within one allocation: count copies of s.** (LAID: no walk: one application.) -/
theorem Tryz.strings_Repeat (s : ByteArray) (c : Nat) (w : World) (hc : c ≤ 9223372036854775807) (hlen : s.size * c ≤ 140737488355328) :
    Calls Tryz.prog 8 #[.string s, .int .i64 c] w fun e w' => e = .returned (.string ⟨(Lib.repeatL s.data.toList c).toArray⟩) ∧ Below w.heap.size w w' := Any.strings_Repeat Tryz.lays105 Tryz.Builder_Extra_105 s c w hc hlen
end Go.Proofs
