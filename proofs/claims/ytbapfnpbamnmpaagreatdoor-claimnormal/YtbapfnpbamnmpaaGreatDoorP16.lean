/- A part of the proof that the text which Print makes of a parsed text is a normal form -/
import Derived.Test.YtbapfnpbamnmpaaGreatDoorP00
import Derived.Test.YtbapfnpbamnmpaaGreatDoorCards
import Derived.JoinedCond
set_option maxHeartbeats 8000000
set_option maxRecDepth 100000
namespace Go.Proofs.YtbapfnpbamnmpaaGreatDoor
open Go Go.RowKit Go.Dig Go.Deep Go.Eng Go.Proofs.Tryz
theorem aly:(λ (P:Program) (_f:FuncId) (_fn:Func) (_s:ChangeSpec) (c:OpenClaim)=>((c.lifted==P.liftsFinal):Bool)) prog 5 Tryz.f5 (OpenSpec.ofChange Rows.claimNormalSpec).bare Rows.claimNormalRow=true:=by kernel_rfl
theorem alz:(λ (P:Program) (_f:FuncId) (_fn:Func) (_s:ChangeSpec) (c:OpenClaim)=>((P.make==some c.make):Bool)) prog 5 Tryz.f5 (OpenSpec.ofChange Rows.claimNormalSpec).bare Rows.claimNormalRow=true:=by kernel_rfl
end Go.Proofs.YtbapfnpbamnmpaaGreatDoor
