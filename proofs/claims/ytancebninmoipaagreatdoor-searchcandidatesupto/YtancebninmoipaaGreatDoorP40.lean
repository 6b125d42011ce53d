/- A part of the proof that SearchCandidates answers true for every input of bulk at most 1048576: conditions: the row's own. -/
import Derived.Test.YtancebninmoipaaGreatDoorRows
import Derived.LaidByTextLater
import Derived.SevenTiedAt
namespace Go.Proofs.YtancebninmoipaaGreatDoor
open Go
theorem tie6:varsNamedLaterB Tryz.prog (varsId Tryz.prog) [("math/bits.deBruijn32tab",Rows.laid_math_bits_deBruijn32tab),("internal/strconv.uint64pow10",Rows.laid_internal_strconv_uint64pow10),("math/bits.deBruijn64tab",Rows.laid_math_bits_deBruijn64tab)]=true:=by kernel_rfl
end Go.Proofs.YtancebninmoipaaGreatDoor
