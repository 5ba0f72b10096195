/- A closed fact of the tie: the listed package variables hold what the program's text lays. Conditions: none. -/
import Derived.Test.YtgmnkhopdoiegaaGreatDoorRows
import Derived.LaidOnce
namespace Go.Proofs.YtgmnkhopdoiegaaGreatDoor
open Go
theorem tn : varsNamedLaterB Tryz.prog (varsId Tryz.prog) [("math/bits.deBruijn64tab", Rows.laid_math_bits_deBruijn64tab), ("unicode/utf8.acceptRanges", Rows.laid_unicode_utf8_acceptRanges), ("internal/strconv.uint64pow10", Rows.laid_internal_strconv_uint64pow10), ("math/bits.deBruijn32tab", Rows.laid_math_bits_deBruijn32tab), ("strconv.ErrSyntax", Rows.laid_strconv_ErrSyntax), ("strconv.ErrRange", Rows.laid_strconv_ErrRange)] = true := by kernel_rfl
end Go.Proofs.YtgmnkhopdoiegaaGreatDoor
