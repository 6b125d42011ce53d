/- A part of the proof that SearchNil answers true for every input: conditions: the row's own. -/
import Derived.Test.YthdgoelpabcgpaaGreatDoorRows
import Derived.LaidByTextLater
import Derived.SevenTiedAt
section
namespace Go.Proofs.YthdgoelpabcgpaaGreatDoor
open Go
theorem tie4 : ([("math/bits.deBruijn32tab", Rows.laid_math_bits_deBruijn32tab), ("internal/strconv.uint64pow10", Rows.laid_internal_strconv_uint64pow10), ("math/bits.deBruijn64tab", Rows.laid_math_bits_deBruijn64tab)] : List (String × DataW Unit)).map (fun x => Tryz.prog.kindOfLater x.1) = [LaidKind.data, .data, .data].map some := by kernel_rfl
end Go.Proofs.YthdgoelpabcgpaaGreatDoor
end
