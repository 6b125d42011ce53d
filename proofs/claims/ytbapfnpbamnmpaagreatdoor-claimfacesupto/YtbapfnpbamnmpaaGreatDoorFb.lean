/- A part of the proof that ClaimFaces answers true for every input of bulk at most 1048576: conditions: the row's own. -/
import Derived.Test.YtbapfnpbamnmpaaGreatDoorCards
import Derived.JoinedCond
namespace Go.Proofs.YtbapfnpbamnmpaaGreatDoor
open Go
theorem cl10:(fun(P:Program)(f:FuncId)(_fn:Func)(_s:ChangeSpec)(c:OpenClaim)=>((c.unfollowed==P.unfollowed f):Bool)) Tryz.prog 9 Tryz.f9 (Rows.OpenSpec.upto Rows.claimFacesSpec).bare Rows.claimFacesUptoRow=true:=by kernel_rfl
end Go.Proofs.YtbapfnpbamnmpaaGreatDoor
