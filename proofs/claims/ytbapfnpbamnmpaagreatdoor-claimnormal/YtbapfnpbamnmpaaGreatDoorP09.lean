/- A part of the proof that the text which Print makes of a parsed text is a normal form -/
import Derived.Test.YtbapfnpbamnmpaaGreatDoorP00
import Derived.Test.YtbapfnpbamnmpaaGreatDoorCards
import Derived.ProofKit
import Derived.JoinedCond
import Derived.SevenTiedAt
set_option maxHeartbeats 8000000
set_option maxRecDepth 100000
namespace Go.Proofs.YtbapfnpbamnmpaaGreatDoor
open Go Go.RowKit Go.Dig Go.Deep Go.Eng Go.Proofs.Tryz
section
open Go Go.ChangeShapes Go.WideShapes Go.ChangeAt Go.RowKit
theorem aaG:true=Tryz.pinned.checked.prog.looks []:=by kernel_rfl
theorem WI:prog.mainIs=some (true,"72e93e87ee8499ba8651b3aedd998e33a401a45855a3730b7cc5859e7edf3b75".toList):=by kernel_rfl
theorem aiD:prog.funcs.any Func.goes=false:=by kernel_rfl
theorem Lg{P:Program}(h:P.funcs.any Func.goes=false)(f:FuncId):P.goes f=false:=by
 unfold Program.goes;rw[h,Bool.and_false,Bool.or_false]
 rw[List.any_eq_false]
 intro g _;cases a:P.funcs[g]? with
 |none=>simp
 |some fn=>
  have:=Array.any_eq_false'.1 h fn (Array.mem_of_getElem? a)
  simpa using this
end
end Go.Proofs.YtbapfnpbamnmpaaGreatDoor
