/- A part of the proof that SearchCandidates answers true for every input of bulk at most 1048576: conditions: the row's own. -/
import Derived.Test.YtancebninmoipaaGreatDoorRows
import Derived.LaidByTextLater
import Derived.SevenTiedAt
namespace Go.Proofs.YtancebninmoipaaGreatDoor
open Go
theorem tie8:∀os tape,(DataW.laidRun Tryz.prog (varsWorld Tryz.prog 400 (varsId Tryz.prog) os tape).memory 8 (([("math/bits.deBruijn32tab",Rows.laid_math_bits_deBruijn32tab),("internal/strconv.uint64pow10",Rows.laid_internal_strconv_uint64pow10),("math/bits.deBruijn64tab",Rows.laid_math_bits_deBruijn64tab)]:List (String×DataW Unit)).map (·.1))).map (·.1)=some [("math/bits.deBruijn32tab",Rows.laid_math_bits_deBruijn32tab),("internal/strconv.uint64pow10",Rows.laid_internal_strconv_uint64pow10),("math/bits.deBruijn64tab",Rows.laid_math_bits_deBruijn64tab)]:=fun _ _=>by kernel_rfl
end Go.Proofs.YtancebninmoipaaGreatDoor
