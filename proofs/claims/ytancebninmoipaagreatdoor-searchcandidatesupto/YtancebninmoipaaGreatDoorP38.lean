/- A part of the proof that SearchCandidates answers true for every input of bulk at most 1048576: conditions: the row's own. -/
import Derived.Test.YtancebninmoipaaGreatDoorRows
import Derived.LaidByTextLater
import Derived.SevenTiedAt
namespace Go.Proofs.YtancebninmoipaaGreatDoor
open Go
theorem tie0:Tryz.pinned.checked.prog.headLifts.contains "ownunsafe" =false:=by kernel_rfl
theorem tie1:Tryz.prog.worded (varsWordLater true)=true:=by kernel_rfl
theorem tie2:Tryz.prog.worded (varsWordLater !true)=false:=by kernel_rfl
end Go.Proofs.YtancebninmoipaaGreatDoor
