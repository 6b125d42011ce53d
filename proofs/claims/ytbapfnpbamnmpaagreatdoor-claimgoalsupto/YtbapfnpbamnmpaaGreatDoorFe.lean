/- A part of the proof that ClaimGoals answers true for every input of bulk at most 1048576: conditions: the row's own. -/
import Derived.Test.YtbapfnpbamnmpaaGreatDoorCards
import Derived.JoinedCond
section
namespace Go.Proofs.YtbapfnpbamnmpaaGreatDoor
open Go
theorem cl2:(fun(P:Program)(_f:FuncId)(_fn:Func)(_s:ChangeSpec)(_c:OpenClaim)=>(mapsRowed P:Bool)) Tryz.prog 7 Tryz.f7 (Rows.OpenSpec.upto Rows.claimGoalsSpec).bare Rows.claimGoalsUptoRow=true:=by kernel_rfl
theorem cl22:(fun(P:Program)(_f:FuncId)(_fn:Func)(_s:ChangeSpec)(c:OpenClaim)=>((c.plainKeys==P.plainKeys):Bool)) Tryz.prog 7 Tryz.f7 (Rows.OpenSpec.upto Rows.claimGoalsSpec).bare Rows.claimGoalsUptoRow=true:=by kernel_rfl
end Go.Proofs.YtbapfnpbamnmpaaGreatDoor
end
section
namespace Go.Proofs.YtbapfnpbamnmpaaGreatDoor
open Go
theorem cl24:(fun(P:Program)(_f:FuncId)(_fn:Func)(_s:ChangeSpec)(_c:OpenClaim)=>(P.stopsHeard:Bool)) Tryz.prog 7 Tryz.f7 (Rows.OpenSpec.upto Rows.claimGoalsSpec).bare Rows.claimGoalsUptoRow=true:=by kernel_rfl
theorem cl25:(fun(P:Program)(_f:FuncId)(_fn:Func)(_s:ChangeSpec)(_c:OpenClaim)=>(P.mayEnter:Bool)) Tryz.prog 7 Tryz.f7 (Rows.OpenSpec.upto Rows.claimGoalsSpec).bare Rows.claimGoalsUptoRow=true:=by kernel_rfl
end Go.Proofs.YtbapfnpbamnmpaaGreatDoor
end
