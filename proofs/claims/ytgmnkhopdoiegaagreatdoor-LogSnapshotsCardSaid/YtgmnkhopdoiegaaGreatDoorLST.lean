/- The tie: the listed package variables hold what the program's text lays. Conditions: none. -/
import Derived.Test.YtgmnkhopdoiegaaGreatDoorLSTA
import Derived.Test.YtgmnkhopdoiegaaGreatDoorLSTB
import Derived.Test.YtgmnkhopdoiegaaGreatDoorLSTC
import Derived.Test.YtgmnkhopdoiegaaGreatDoorLSTD
import Derived.Test.YtgmnkhopdoiegaaGreatDoorLSTE
import Derived.LaidByTextLater
import Derived.SevenTiedAt
namespace Go.Proofs.YtgmnkhopdoiegaaGreatDoor
open Go
theorem tie : Tryz.prog.laidByTextLater [("math/bits.deBruijn64tab", Rows.laid_math_bits_deBruijn64tab), ("unicode/utf8.acceptRanges", Rows.laid_unicode_utf8_acceptRanges), ("internal/strconv.uint64pow10", Rows.laid_internal_strconv_uint64pow10), ("math/bits.deBruijn32tab", Rows.laid_math_bits_deBruijn32tab), ("strconv.ErrSyntax", Rows.laid_strconv_ErrSyntax), ("strconv.ErrRange", Rows.laid_strconv_ErrRange)] [.data, .data, .data, .data, .sentinel, .sentinel] true :=
  Program.laidByTextLater_by_one 400 8 300 tw1 tw2 tw3 tk tg tn tr
theorem logSnapshots_row_tie : Rows.logSnapshotsRow.laidByTextAt .later Tryz.pinned [.data, .pinned, .data, .data, .data, .sentinel, .sentinel] true :=
  OpenClaim.laidByTextAt_pinned rfl rfl tie rfl rfl rfl rfl (fun y hy _e => by
    simp only [Rows.logSnapshotsRow, List.zip_cons_cons, List.zip_nil_right, List.mem_cons, List.mem_nil_iff, or_false] at hy
    rcases hy with rfl | rfl | rfl | rfl | rfl | rfl | rfl
    · cases _e
    · exact ⟨pin_laid_unicode_utf8_first, by kernel_rfl⟩
    · cases _e
    · cases _e
    · cases _e
    · cases _e
    · cases _e) fits1
end Go.Proofs.YtgmnkhopdoiegaaGreatDoor
