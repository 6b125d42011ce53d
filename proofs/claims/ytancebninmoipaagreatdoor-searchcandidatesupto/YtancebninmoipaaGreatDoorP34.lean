/- A part of the proof that SearchCandidates answers true for every input of bulk at most 1048576: conditions: the row's own. -/
import Derived.Test.YtancebninmoipaaGreatDoorCards
import Derived.JoinedCond
namespace Go.Proofs.YtancebninmoipaaGreatDoor
open Go
theorem cl24:(fun(P:Program)(_f:FuncId)(_fn:Func)(_s:ChangeSpec)(_c:OpenClaim)=>(P.stopsHeard:Bool)) Tryz.prog 3 Tryz.f3 (Rows.OpenSpec.upto Rows.searchCandidatesSpec).bare Rows.searchCandidatesUptoRow=true:=by kernel_rfl
end Go.Proofs.YtancebninmoipaaGreatDoor
