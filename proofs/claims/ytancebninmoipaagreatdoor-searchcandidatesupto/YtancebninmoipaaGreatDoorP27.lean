/- A part of the proof that SearchCandidates answers true for every input of bulk at most 1048576: conditions: the row's own. -/
import Derived.Test.YtancebninmoipaaGreatDoorP25
import Derived.Test.YtancebninmoipaaGreatDoorProg
import Derived.KernelRfl
section
open Go Go.Eng Go.Proofs
namespace Go.Proofs.YtancebninmoipaaGreatDoor
theorem runSq:entSq.chk ((evalT [0] Tryz.prog noTab 5000).call entSq.f entSq.args entSq.H)=true:=by kernel_rfl
end Go.Proofs.YtancebninmoipaaGreatDoor
end
