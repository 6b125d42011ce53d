/- A part of the proof that SearchCandidates answers true for every input of bulk at most 1048576: conditions: the row's own. -/
import Derived.Test.YtancebninmoipaaGreatDoorCards
import Derived.JoinedCond
namespace Go.Proofs.YtancebninmoipaaGreatDoor
open Go
theorem cl2:(fun(P:Program)(_f:FuncId)(_fn:Func)(_s:ChangeSpec)(_c:OpenClaim)=>(mapsRowed P:Bool)) Tryz.prog 3 Tryz.f3 (Rows.OpenSpec.upto Rows.searchCandidatesSpec).bare Rows.searchCandidatesUptoRow=true:=by kernel_rfl
theorem cl26:(fun(P:Program)(_f:FuncId)(_fn:Func)(_s:ChangeSpec)(c:OpenClaim)=>((c.lifted==P.liftsFinal):Bool)) Tryz.prog 3 Tryz.f3 (Rows.OpenSpec.upto Rows.searchCandidatesSpec).bare Rows.searchCandidatesUptoRow=true:=by kernel_rfl
theorem cl27:(fun(P:Program)(_f:FuncId)(_fn:Func)(_s:ChangeSpec)(c:OpenClaim)=>((P.make==some c.make):Bool)) Tryz.prog 3 Tryz.f3 (Rows.OpenSpec.upto Rows.searchCandidatesSpec).bare Rows.searchCandidatesUptoRow=true:=by kernel_rfl
end Go.Proofs.YtancebninmoipaaGreatDoor
