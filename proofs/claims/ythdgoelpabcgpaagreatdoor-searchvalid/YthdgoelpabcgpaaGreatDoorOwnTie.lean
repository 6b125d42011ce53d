/- A part of the proof that SearchNil answers true for every input: conditions: the row's own. -/
import Derived.Test.YthdgoelpabcgpaaGreatDoorTie0
import Derived.Test.YthdgoelpabcgpaaGreatDoorTie1
import Derived.Test.YthdgoelpabcgpaaGreatDoorTie2
import Derived.Test.YthdgoelpabcgpaaGreatDoorTie3
import Derived.Test.YthdgoelpabcgpaaGreatDoorTie4
import Derived.Test.YthdgoelpabcgpaaGreatDoorTie5
import Derived.Test.YthdgoelpabcgpaaGreatDoorTie6
import Derived.Test.YthdgoelpabcgpaaGreatDoorTie7
import Derived.Test.YthdgoelpabcgpaaGreatDoorTie8
import Derived.Test.YthdgoelpabcgpaaGreatDoorTie9
section
namespace Go.Proofs.YthdgoelpabcgpaaGreatDoor
open Go
theorem ownTie : Tryz.prog.laidByTextLater [("math/bits.deBruijn32tab", Rows.laid_math_bits_deBruijn32tab), ("internal/strconv.uint64pow10", Rows.laid_internal_strconv_uint64pow10), ("math/bits.deBruijn64tab", Rows.laid_math_bits_deBruijn64tab)] [.data, .data, .data] true :=
  Program.laidByTextLater_by_run 400 8 tie1 tie2 tie3 tie4 tie5 tie6 tie7 tie8 tie9
theorem nil_row_tie : Rows.searchNilRow.laidByTextAt .later Tryz.pinned [.data, .data, .data] true :=
  OpenClaim.laidByTextAt_later rfl rfl ownTie tie0
theorem valid_row_tie : Rows.searchValidRow.laidByTextAt .later Tryz.pinned [.data, .data, .data] true :=
  OpenClaim.laidByTextAt_later rfl rfl ownTie tie0
end Go.Proofs.YthdgoelpabcgpaaGreatDoor
end
