/- strings.Repeat with a count that is not negative gives so many copies: the shelf's contract, laid at this program. Conditions: the result is no longer than one allocation may be. -/
import Derived.Shelf.Strings.Repeat
import Derived.Test.YteokcfkggfapkaaGreatDoorProg
namespace Go.Proofs
open Go.Shelf
def Tryz.lays105_ren : Go.Shelf.Ren := ⟨fun | 105 => 19 | 212 => 51 | 99 => 15 | 165 => 52 | 166 => 49 | 170 => 48 | 169 => 50 | 263 => 84 | 264 => 85 | 206 => 43 | 240 => 81 | 241 => 86 | 276 => 139 | 277 => 140 | n => n, fun | 9 => 9 | 3 => 3 | 4 => 4 | 20 => 20 | 0 => 0 | 46 => 120 | 109 => 121 | 5 => 5 | 72 => 110 | 76 => 118 | 51 => 170 | 146 => 171 | 53 => 93 | 148 => 173 | 70 => 108 | 37 => 45 | 75 => 112 | 127 => 169 | 164 => 237 | 80 => 58 | n => n, fun | n => n⟩
theorem Tryz.lays105 : Go.Proofs.Lays.n105 Tryz.prog Tryz.lays105_ren := {
  mixed := by kernel_rfl
  f99 := Tryz.func15.trans (congrArg some (by kernel_rfl))
  f105 := Tryz.func19.trans (congrArg some (by kernel_rfl))
  f165 := Tryz.func52.trans (congrArg some (by kernel_rfl))
  f166 := Tryz.func49.trans (congrArg some (by kernel_rfl))
  f169 := Tryz.func50.trans (congrArg some (by kernel_rfl))
  f170 := Tryz.func48.trans (congrArg some (by kernel_rfl))
  f206 := Tryz.func43.trans (congrArg some (by kernel_rfl))
  f212 := Tryz.func51.trans (congrArg some (by kernel_rfl))
  f240 := Tryz.func81.trans (congrArg some (by kernel_rfl))
  f241 := Tryz.func86.trans (congrArg some (by kernel_rfl))
  f263 := Tryz.func84.trans (congrArg some (by kernel_rfl))
  f264 := Tryz.func85.trans (congrArg some (by kernel_rfl))
  f276 := Tryz.func139.trans (congrArg some (by kernel_rfl))
  f277 := Tryz.func140.trans (congrArg some (by kernel_rfl))
  t0 := Tryz.underlying0
  a0 := Tryz.isAgg0
  z0 := Tryz.sizeOf0
  v0 := Tryz.zeroValue0
  t3 := Tryz.underlying3
  a3 := Tryz.isAgg3
  z3 := Tryz.sizeOf3
  v3 := Tryz.zeroValue3
  t4 := Tryz.underlying4
  a4 := Tryz.isAgg4
  z4 := Tryz.sizeOf4
  v4 := Tryz.zeroValue4
  t5 := Tryz.underlying5
  a5 := Tryz.isAgg5
  z5 := Tryz.sizeOf5
  v5 := Tryz.zeroValue5
  t9 := Tryz.underlying9
  a9 := Tryz.isAgg9
  z9 := Tryz.sizeOf9
  v9 := Tryz.zeroValue9
  t20 := Tryz.underlying20
  a20 := Tryz.isAgg20
  z20 := Tryz.sizeOf20
  v20 := Tryz.zeroValue20
  t37 := Tryz.underlying45
  a37 := Tryz.isAgg45
  z37 := Tryz.sizeOf45
  v37 := Tryz.zeroValue45
  t46 := Tryz.underlying120
  a46 := Tryz.isAgg120
  z46 := Tryz.sizeOf120
  v46 := Tryz.zeroValue120
  t51 := Tryz.underlying170
  a51 := Tryz.isAgg170
  z51 := Tryz.sizeOf170
  v51 := Tryz.zeroValue170
  t53 := Tryz.underlying93
  a53 := Tryz.isAgg93
  z53 := Tryz.sizeOf93
  v53 := Tryz.zeroValue93
  t70 := Tryz.underlying108
  a70 := Tryz.isAgg108
  z70 := Tryz.sizeOf108
  v70 := Tryz.zeroValue108
  t72 := Tryz.underlying110
  a72 := Tryz.isAgg110
  z72 := Tryz.sizeOf110
  v72 := Tryz.zeroValue110
  t75 := Tryz.underlying112
  a75 := Tryz.isAgg112
  z75 := Tryz.sizeOf112
  v75 := Tryz.zeroValue112
  t76 := Tryz.underlying118
  a76 := Tryz.isAgg118
  z76 := Tryz.sizeOf118
  v76 := Tryz.zeroValue118
  t109 := Tryz.underlying121
  a109 := Tryz.isAgg121
  z109 := Tryz.sizeOf121
  v109 := Tryz.zeroValue121
  t127 := Tryz.underlying169
  a127 := Tryz.isAgg169
  z127 := Tryz.sizeOf169
  v127 := Tryz.zeroValue169
  t146 := Tryz.underlying171
  a146 := Tryz.isAgg171
  z146 := Tryz.sizeOf171
  v146 := Tryz.zeroValue171
  t148 := Tryz.underlying173
  a148 := Tryz.isAgg173
  z148 := Tryz.sizeOf173
  v148 := Tryz.zeroValue173
  t164 := Tryz.underlying237
  a164 := Tryz.isAgg237
  z164 := Tryz.sizeOf237
  v164 := Tryz.zeroValue237 }
theorem Tryz.Builder_Extra_105 : Builder.Extra Tryz.prog Tryz.lays105_ren := {
  sizeBuilder := by kernel_rfl
  liesBuilder := by kernel_rfl
  t5 := Tryz.underlying5
  a5 := Tryz.isAgg5
  z5 := Tryz.sizeOf5
  v5 := Tryz.zeroValue5
  infoByte := by kernel_rfl
  cellsByte := by kernel_rfl
  sizeByte := by kernel_rfl
  neB5 := by decide }
open Go.RowKit Go.Lib in
/-- **strings.Repeat: count ≥ 0, the result within one allocation: count copies of s.** (LAID: no walk: one application.) -/
theorem Tryz.strings_Repeat (s : ByteArray) (c : Nat) (w : World) (hc : c ≤ 9223372036854775807) (hlen : s.size * c ≤ 140737488355328) :
    Calls Tryz.prog 19 #[.string s, .int .i64 c] w fun e w' => e = .returned (.string ⟨(Lib.repeatL s.data.toList c).toArray⟩) ∧ Below w.heap.size w w' := Any.strings_Repeat Tryz.lays105 Tryz.Builder_Extra_105 s c w hc hlen
end Go.Proofs
