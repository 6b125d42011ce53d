/- A part of the proof that ClaimFaces answers true for every input of bulk at most 1048576: conditions: the row's own. -/
import Derived.Test.YtbapfnpbamnmpaaGreatDoorCards
import Derived.JoinedCond
import Derived.Test.YtbapfnpbamnmpaaGreatDoorFa
import Derived.Test.YtbapfnpbamnmpaaGreatDoorFb
import Derived.Test.YtbapfnpbamnmpaaGreatDoorFc
import Derived.Test.YtbapfnpbamnmpaaGreatDoorFd
import Derived.Test.YtbapfnpbamnmpaaGreatDoorCa
namespace Go.Proofs.YtbapfnpbamnmpaaGreatDoor
open Go
theorem cl2:(fun(P:Program)(_f:FuncId)(_fn:Func)(_s:ChangeSpec)(_c:OpenClaim)=>(mapsRowed P:Bool)) Tryz.prog 9 Tryz.f9 (Rows.OpenSpec.upto Rows.claimFacesSpec).bare Rows.claimFacesUptoRow=true:=by kernel_rfl
theorem cl22:(fun(P:Program)(_f:FuncId)(_fn:Func)(_s:ChangeSpec)(c:OpenClaim)=>((c.plainKeys==P.plainKeys):Bool)) Tryz.prog 9 Tryz.f9 (Rows.OpenSpec.upto Rows.claimFacesSpec).bare Rows.claimFacesUptoRow=true:=by kernel_rfl
theorem cl24:(fun(P:Program)(_f:FuncId)(_fn:Func)(_s:ChangeSpec)(_c:OpenClaim)=>(P.stopsHeard:Bool)) Tryz.prog 9 Tryz.f9 (Rows.OpenSpec.upto Rows.claimFacesSpec).bare Rows.claimFacesUptoRow=true:=by kernel_rfl
theorem cl25:(fun(P:Program)(_f:FuncId)(_fn:Func)(_s:ChangeSpec)(_c:OpenClaim)=>(P.mayEnter:Bool)) Tryz.prog 9 Tryz.f9 (Rows.OpenSpec.upto Rows.claimFacesSpec).bare Rows.claimFacesUptoRow=true:=by kernel_rfl
theorem cl26:(fun(P:Program)(_f:FuncId)(_fn:Func)(_s:ChangeSpec)(c:OpenClaim)=>((c.lifted==P.liftsFinal):Bool)) Tryz.prog 9 Tryz.f9 (Rows.OpenSpec.upto Rows.claimFacesSpec).bare Rows.claimFacesUptoRow=true:=by kernel_rfl
theorem cl27:(fun(P:Program)(_f:FuncId)(_fn:Func)(_s:ChangeSpec)(c:OpenClaim)=>((P.make==some c.make):Bool)) Tryz.prog 9 Tryz.f9 (Rows.OpenSpec.upto Rows.claimFacesSpec).bare Rows.claimFacesUptoRow=true:=by kernel_rfl
theorem cl0:(fun(_P:Program)(_f:FuncId)(_fn:Func)(s:ChangeSpec)(c:OpenClaim)=>(c.wf (OpenSpec.ofChange s):Bool)) Tryz.prog 9 Tryz.f9 (Rows.OpenSpec.upto Rows.claimFacesSpec).bare Rows.claimFacesUptoRow=true:=by kernel_rfl
theorem cl3:(fun(P:Program)(_f:FuncId)(fn:Func)(_s:ChangeSpec)(_c:OpenClaim)=>(fn.params.all (P.readableRec ·):Bool)) Tryz.prog 9 Tryz.f9 (Rows.OpenSpec.upto Rows.claimFacesSpec).bare Rows.claimFacesUptoRow=true:=by kernel_rfl
theorem cl4:(fun(P:Program)(_f:FuncId)(_fn:Func)(s:ChangeSpec)(c:OpenClaim)=>(namedTie P c.named s.vars:Bool)) Tryz.prog 9 Tryz.f9 (Rows.OpenSpec.upto Rows.claimFacesSpec).bare Rows.claimFacesUptoRow=true:=by kernel_rfl
theorem cl5:(fun(_P:Program)(_f:FuncId)(_fn:Func)(_s:ChangeSpec)(c:OpenClaim)=>((c.stops==[]):Bool)) Tryz.prog 9 Tryz.f9 (Rows.OpenSpec.upto Rows.claimFacesSpec).bare Rows.claimFacesUptoRow=true:=by kernel_rfl
theorem cl6:(fun(P:Program)(_f:FuncId)(_fn:Func)(_s:ChangeSpec)(_c:OpenClaim)=>((P.stops==[]):Bool)) Tryz.prog 9 Tryz.f9 (Rows.OpenSpec.upto Rows.claimFacesSpec).bare Rows.claimFacesUptoRow=true:=by kernel_rfl
theorem cl7:(fun(_P:Program)(_f:FuncId)(_fn:Func)(_s:ChangeSpec)(c:OpenClaim)=>((c.knobs==[]):Bool)) Tryz.prog 9 Tryz.f9 (Rows.OpenSpec.upto Rows.claimFacesSpec).bare Rows.claimFacesUptoRow=true:=by kernel_rfl
theorem cl8:(fun(P:Program)(_f:FuncId)(_fn:Func)(_s:ChangeSpec)(_c:OpenClaim)=>((P.stopKnobs==[]):Bool)) Tryz.prog 9 Tryz.f9 (Rows.OpenSpec.upto Rows.claimFacesSpec).bare Rows.claimFacesUptoRow=true:=by kernel_rfl
theorem cl13:(fun(P:Program)(_f:FuncId)(fn:Func)(s:ChangeSpec)(c:OpenClaim)=>((c.maps==(fn.params.toList++s.plain.varTypes P).any (P.mapsRec ·)):Bool)) Tryz.prog 9 Tryz.f9 (Rows.OpenSpec.upto Rows.claimFacesSpec).bare Rows.claimFacesUptoRow=true:=by kernel_rfl
theorem cl14:(fun(P:Program)(_f:FuncId)(fn:Func)(s:ChangeSpec)(c:OpenClaim)=>((c.ifaces==(fn.params.toList++s.plain.varTypes P).any (P.ifacesRec ·)):Bool)) Tryz.prog 9 Tryz.f9 (Rows.OpenSpec.upto Rows.claimFacesSpec).bare Rows.claimFacesUptoRow=true:=by kernel_rfl
theorem cl15:(fun(P:Program)(_f:FuncId)(fn:Func)(_s:ChangeSpec)(c:OpenClaim)=>((c.mapsOut==P.mapsAmong fn.resultTypes.toList):Bool)) Tryz.prog 9 Tryz.f9 (Rows.OpenSpec.upto Rows.claimFacesSpec).bare Rows.claimFacesUptoRow=true:=by kernel_rfl
theorem cl16:(fun(P:Program)(_f:FuncId)(fn:Func)(s:ChangeSpec)(c:OpenClaim)=>((c.loops==(fn.params.toList++s.plain.varTypes P).any (P.loopsFrom ·)):Bool)) Tryz.prog 9 Tryz.f9 (Rows.OpenSpec.upto Rows.claimFacesSpec).bare Rows.claimFacesUptoRow=true:=by kernel_rfl
theorem cl17:(fun(P:Program)(_f:FuncId)(fn:Func)(s:ChangeSpec)(c:OpenClaim)=>((c.wideKeys==(fn.params.toList++s.plain.varTypes P++fn.resultTypes.toList).any (P.wideKeysFrom ·)):Bool)) Tryz.prog 9 Tryz.f9 (Rows.OpenSpec.upto Rows.claimFacesSpec).bare Rows.claimFacesUptoRow=true:=by kernel_rfl
theorem cl18:(fun(P:Program)(_f:FuncId)(_fn:Func)(s:ChangeSpec)(_c:OpenClaim)=>(s.vars.all (P.varReadable ·):Bool)) Tryz.prog 9 Tryz.f9 (Rows.OpenSpec.upto Rows.claimFacesSpec).bare Rows.claimFacesUptoRow=true:=by kernel_rfl
theorem cl19:(fun(P:Program)(_f:FuncId)(fn:Func)(_s:ChangeSpec)(_c:OpenClaim)=>(fn.resultTypes.all (fun t=>P.readableRec t&&decide (t<P.types.size)):Bool)) Tryz.prog 9 Tryz.f9 (Rows.OpenSpec.upto Rows.claimFacesSpec).bare Rows.claimFacesUptoRow=true:=by kernel_rfl
theorem cl20:(fun(P:Program)(_f:FuncId)(fn:Func)(_s:ChangeSpec)(c:OpenClaim)=>((c.ifacesOut==fn.resultTypes.toList.any (P.ifacesRec ·)):Bool)) Tryz.prog 9 Tryz.f9 (Rows.OpenSpec.upto Rows.claimFacesSpec).bare Rows.claimFacesUptoRow=true:=by kernel_rfl
theorem cl21:(fun(P:Program)(_f:FuncId)(fn:Func)(_s:ChangeSpec)(c:OpenClaim)=>((c.loopsOut==fn.resultTypes.toList.any (P.loopsFrom ·)):Bool)) Tryz.prog 9 Tryz.f9 (Rows.OpenSpec.upto Rows.claimFacesSpec).bare Rows.claimFacesUptoRow=true:=by kernel_rfl
theorem cl23:(fun(_P:Program)(_f:FuncId)(_fn:Func)(_s:ChangeSpec)(c:OpenClaim)=>(c.shortTexts.isNone:Bool)) Tryz.prog 9 Tryz.f9 (Rows.OpenSpec.upto Rows.claimFacesSpec).bare Rows.claimFacesUptoRow=true:=by kernel_rfl
theorem cl28:(fun(P:Program)(_f:FuncId)(fn:Func)(_s:ChangeSpec)(c:OpenClaim)=>((c.kinds==(if c.domain.isEmpty then [] else fn.params.toList.map fun t=>match P.underlying t with|some (.int k)=>some k|_=>none)):Bool)) Tryz.prog 9 Tryz.f9 (Rows.OpenSpec.upto Rows.claimFacesSpec).bare Rows.claimFacesUptoRow=true:=by kernel_rfl
theorem cl29:(fun(_P:Program)(_f:FuncId)(_fn:Func)(_s:ChangeSpec)(c:OpenClaim)=>((c.pinned==c.pinnedBy):Bool)) Tryz.prog 9 Tryz.f9 (Rows.OpenSpec.upto Rows.claimFacesSpec).bare Rows.claimFacesUptoRow=true:=by kernel_rfl
theorem cl30:(fun(P:Program)(_f:FuncId)(fn:Func)(s:ChangeSpec)(c:OpenClaim)=>((c.veiled==(fn.params.toList++s.plain.varTypes P++fn.resultTypes.toList).any (P.veiledRec ·)):Bool)) Tryz.prog 9 Tryz.f9 (Rows.OpenSpec.upto Rows.claimFacesSpec).bare Rows.claimFacesUptoRow=true:=by kernel_rfl
theorem cl31:(fun(P:Program)(_f:FuncId)(fn:Func)(s:ChangeSpec)(c:OpenClaim)=>(c.veiledFits P fn.params.toList (fn.params.toList++s.plain.varTypes P++fn.resultTypes.toList):Bool)) Tryz.prog 9 Tryz.f9 (Rows.OpenSpec.upto Rows.claimFacesSpec).bare Rows.claimFacesUptoRow=true:=by kernel_rfl
theorem and_t{a b:Bool}(ha:a=true)(hb:b=true):(a&&b)=true:=by rw[ha,hb];rfl
set_option maxRecDepth 100000 in
theorem closed6:joinedFacts Tryz.prog 9 Tryz.f9 (Rows.OpenSpec.upto Rows.claimFacesSpec).bare Rows.claimFacesUptoRow=true:=by
 unfold joinedFacts
 exact(and_t (and_t (and_t (and_t (and_t (and_t (and_t (and_t (and_t (and_t (and_t (and_t (and_t (and_t (and_t (and_t (and_t (and_t (and_t (and_t (and_t (and_t (and_t (and_t (and_t (and_t (and_t (and_t (and_t (and_t (and_t cl0 laidOut) cl2) cl3) cl4) cl5) cl6) cl7) cl8) cl9) cl10) cl11) cl12) cl13) cl14) cl15) cl16) cl17) cl18) cl19) cl20) cl21) cl22) cl23) cl24) cl25) cl26) cl27) cl28) cl29) cl30) cl31)
end Go.Proofs.YtbapfnpbamnmpaaGreatDoor
