/- A part of the proof that SearchNil answers true for every input: conditions: the row's own. -/
import Derived.Test.YthdgoelpabcgpaaGreatDoorRows
import Derived.LaidByTextLater
import Derived.SevenTiedAt
section
namespace Go.Proofs.YthdgoelpabcgpaaGreatDoor
open Go
theorem tie6 : varsNamedLaterB Tryz.prog (varsId Tryz.prog) [("math/bits.deBruijn32tab", Rows.laid_math_bits_deBruijn32tab), ("internal/strconv.uint64pow10", Rows.laid_internal_strconv_uint64pow10), ("math/bits.deBruijn64tab", Rows.laid_math_bits_deBruijn64tab)] = true := by kernel_rfl
end Go.Proofs.YthdgoelpabcgpaaGreatDoor
end
