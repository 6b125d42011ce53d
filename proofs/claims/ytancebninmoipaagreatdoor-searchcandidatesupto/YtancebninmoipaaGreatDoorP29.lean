/- A part of the proof that SearchCandidates answers true for every input of bulk at most 1048576: conditions: the row's own. -/
import Derived.Test.YtancebninmoipaaGreatDoorP25
import Derived.Test.YtancebninmoipaaGreatDoorProg
import Derived.KernelRfl
section
open Go Go.Eng Go.Proofs
namespace Go.Proofs.YtancebninmoipaaGreatDoor
theorem runApply:entApply.chk ((evalT [0] Tryz.prog noTab 5000).call entApply.f entApply.args entApply.H)=true:=by kernel_rfl
end Go.Proofs.YtancebninmoipaaGreatDoor
end
