/- A part of the proof that the text which Print makes of a parsed text is a normal form -/
import Derived.Test.YtbapfnpbamnmpaaGreatDoorP00
import Derived.Test.YtbapfnpbamnmpaaGreatDoorCards
import Derived.JoinedCond
set_option maxHeartbeats 8000000
set_option maxRecDepth 100000
namespace Go.Proofs.YtbapfnpbamnmpaaGreatDoor
open Go Go.RowKit Go.Dig Go.Deep Go.Eng Go.Proofs.Tryz
theorem cl0:(λ (_P:Program) (_f:FuncId) (_fn:Func) (s:ChangeSpec) (c:OpenClaim)=>(c.wf (OpenSpec.ofChange s):Bool)) prog 5 Tryz.f5 (OpenSpec.ofChange Rows.claimNormalSpec).bare Rows.claimNormalRow=true:=by kernel_rfl
theorem cl3:(λ (P:Program) (_f:FuncId) (fn:Func) (_s:ChangeSpec) (_c:OpenClaim)=>(fn.params.all (P.readableRec ·):Bool)) prog 5 Tryz.f5 (OpenSpec.ofChange Rows.claimNormalSpec).bare Rows.claimNormalRow=true:=by kernel_rfl
theorem cl4:(λ (P:Program) (_f:FuncId) (_fn:Func) (s:ChangeSpec) (c:OpenClaim)=>(namedTie P c.named s.vars:Bool)) prog 5 Tryz.f5 (OpenSpec.ofChange Rows.claimNormalSpec).bare Rows.claimNormalRow=true:=by kernel_rfl
theorem cl5:(λ (_P:Program) (_f:FuncId) (_fn:Func) (_s:ChangeSpec) (c:OpenClaim)=>((c.stops==[]):Bool)) prog 5 Tryz.f5 (OpenSpec.ofChange Rows.claimNormalSpec).bare Rows.claimNormalRow=true:=by kernel_rfl
theorem cl6:(λ (P:Program) (_f:FuncId) (_fn:Func) (_s:ChangeSpec) (_c:OpenClaim)=>((P.stops==[]):Bool)) prog 5 Tryz.f5 (OpenSpec.ofChange Rows.claimNormalSpec).bare Rows.claimNormalRow=true:=by kernel_rfl
theorem cl7:(λ (_P:Program) (_f:FuncId) (_fn:Func) (_s:ChangeSpec) (c:OpenClaim)=>((c.knobs==[]):Bool)) prog 5 Tryz.f5 (OpenSpec.ofChange Rows.claimNormalSpec).bare Rows.claimNormalRow=true:=by kernel_rfl
theorem cl8:(λ (P:Program) (_f:FuncId) (_fn:Func) (_s:ChangeSpec) (_c:OpenClaim)=>((P.stopKnobs==[]):Bool)) prog 5 Tryz.f5 (OpenSpec.ofChange Rows.claimNormalSpec).bare Rows.claimNormalRow=true:=by kernel_rfl
theorem alA:(λ (P:Program) (_f:FuncId) (fn:Func) (s:ChangeSpec) (c:OpenClaim)=>((c.maps==(fn.params.toList++s.plain.varTypes P).any (P.mapsRec ·)):Bool)) prog 5 Tryz.f5 (OpenSpec.ofChange Rows.claimNormalSpec).bare Rows.claimNormalRow=true:=by kernel_rfl
theorem alB:(λ (P:Program) (_f:FuncId) (fn:Func) (s:ChangeSpec) (c:OpenClaim)=>((c.ifaces==(fn.params.toList++s.plain.varTypes P).any (P.ifacesRec ·)):Bool)) prog 5 Tryz.f5 (OpenSpec.ofChange Rows.claimNormalSpec).bare Rows.claimNormalRow=true:=by kernel_rfl
theorem alC:(λ (P:Program) (_f:FuncId) (fn:Func) (_s:ChangeSpec) (c:OpenClaim)=>((c.mapsOut==P.mapsAmong fn.resultTypes.toList):Bool)) prog 5 Tryz.f5 (OpenSpec.ofChange Rows.claimNormalSpec).bare Rows.claimNormalRow=true:=by kernel_rfl
theorem alD:(λ (P:Program) (_f:FuncId) (fn:Func) (s:ChangeSpec) (c:OpenClaim)=>((c.loops==(fn.params.toList++s.plain.varTypes P).any (P.loopsFrom ·)):Bool)) prog 5 Tryz.f5 (OpenSpec.ofChange Rows.claimNormalSpec).bare Rows.claimNormalRow=true:=by kernel_rfl
theorem alE:(λ (P:Program) (_f:FuncId) (fn:Func) (s:ChangeSpec) (c:OpenClaim)=>((c.wideKeys==(fn.params.toList++s.plain.varTypes P++fn.resultTypes.toList).any (P.wideKeysFrom ·)):Bool)) prog 5 Tryz.f5 (OpenSpec.ofChange Rows.claimNormalSpec).bare Rows.claimNormalRow=true:=by kernel_rfl
theorem alF:(λ (P:Program) (_f:FuncId) (_fn:Func) (s:ChangeSpec) (_c:OpenClaim)=>(s.vars.all (P.varReadable ·):Bool)) prog 5 Tryz.f5 (OpenSpec.ofChange Rows.claimNormalSpec).bare Rows.claimNormalRow=true:=by kernel_rfl
theorem alG:(λ (P:Program) (_f:FuncId) (fn:Func) (_s:ChangeSpec) (_c:OpenClaim)=>(fn.resultTypes.all (λ t=>P.readableRec t&&decide (t<P.types.size)):Bool)) prog 5 Tryz.f5 (OpenSpec.ofChange Rows.claimNormalSpec).bare Rows.claimNormalRow=true:=by kernel_rfl
theorem alH:(λ (P:Program) (_f:FuncId) (fn:Func) (_s:ChangeSpec) (c:OpenClaim)=>((c.ifacesOut==fn.resultTypes.toList.any (P.ifacesRec ·)):Bool)) prog 5 Tryz.f5 (OpenSpec.ofChange Rows.claimNormalSpec).bare Rows.claimNormalRow=true:=by kernel_rfl
theorem alI:(λ (P:Program) (_f:FuncId) (fn:Func) (_s:ChangeSpec) (c:OpenClaim)=>((c.loopsOut==fn.resultTypes.toList.any (P.loopsFrom ·)):Bool)) prog 5 Tryz.f5 (OpenSpec.ofChange Rows.claimNormalSpec).bare Rows.claimNormalRow=true:=by kernel_rfl
theorem alJ:(λ (_P:Program) (_f:FuncId) (_fn:Func) (_s:ChangeSpec) (c:OpenClaim)=>(c.shortTexts.isNone:Bool)) prog 5 Tryz.f5 (OpenSpec.ofChange Rows.claimNormalSpec).bare Rows.claimNormalRow=true:=by kernel_rfl
theorem alK:(λ (P:Program) (_f:FuncId) (fn:Func) (_s:ChangeSpec) (c:OpenClaim)=>((c.kinds==(if c.domain.isEmpty then [] else fn.params.toList.map λ t=>match P.underlying t with|some (.int k)=>some k|_=>none)):Bool)) prog 5 Tryz.f5 (OpenSpec.ofChange Rows.claimNormalSpec).bare Rows.claimNormalRow=true:=by kernel_rfl
theorem alL:(λ (_P:Program) (_f:FuncId) (_fn:Func) (_s:ChangeSpec) (c:OpenClaim)=>((c.pinned==c.pinnedBy):Bool)) prog 5 Tryz.f5 (OpenSpec.ofChange Rows.claimNormalSpec).bare Rows.claimNormalRow=true:=by kernel_rfl
theorem alM:(λ (P:Program) (_f:FuncId) (fn:Func) (s:ChangeSpec) (c:OpenClaim)=>((c.veiled==(fn.params.toList++s.plain.varTypes P++fn.resultTypes.toList).any (P.veiledRec ·)):Bool)) prog 5 Tryz.f5 (OpenSpec.ofChange Rows.claimNormalSpec).bare Rows.claimNormalRow=true:=by kernel_rfl
theorem alN:(λ (P:Program) (_f:FuncId) (fn:Func) (s:ChangeSpec) (c:OpenClaim)=>(c.veiledFits P fn.params.toList (fn.params.toList++s.plain.varTypes P++fn.resultTypes.toList):Bool)) prog 5 Tryz.f5 (OpenSpec.ofChange Rows.claimNormalSpec).bare Rows.claimNormalRow=true:=by kernel_rfl
end Go.Proofs.YtbapfnpbamnmpaaGreatDoor
