/- A part of the proof that SearchCandidates answers true for every input of bulk at most 1048576: conditions: the row's own. -/
import Derived.Test.YtancebninmoipaaGreatDoorP25
import Derived.Test.YtancebninmoipaaGreatDoorProg
import Derived.KernelRfl
section
open Go Go.Eng Go.Proofs
namespace Go.Proofs.YtancebninmoipaaGreatDoor
theorem runAtt:entAtt.chk ((evalT [0] Tryz.prog (entApply.tab (entReady2.tab noTab)) 5000).call entAtt.f entAtt.args entAtt.H)=true:=by kernel_rfl
end Go.Proofs.YtancebninmoipaaGreatDoor
end
section
open Go Go.Eng Go.Proofs
namespace Go.Proofs.YtancebninmoipaaGreatDoor
theorem runNew:entNew.chk ((evalT [0] Tryz.prog (entReady1.tab noTab) 5000).call entNew.f entNew.args entNew.H)=true:=by kernel_rfl
end Go.Proofs.YtancebninmoipaaGreatDoor
end
section
open Go Go.Eng Go.Proofs
namespace Go.Proofs.YtancebninmoipaaGreatDoor
theorem runReady1:entReady1.chk ((evalT [0] Tryz.prog noTab 5000).call entReady1.f entReady1.args entReady1.H)=true:=by kernel_rfl
end Go.Proofs.YtancebninmoipaaGreatDoor
end
section
open Go Go.Eng Go.Proofs
namespace Go.Proofs.YtancebninmoipaaGreatDoor
theorem runReady2:entReady2.chk ((evalT [0] Tryz.prog noTab 5000).call entReady2.f entReady2.args entReady2.H)=true:=by kernel_rfl
end Go.Proofs.YtancebninmoipaaGreatDoor
end
