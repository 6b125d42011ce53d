/- A part of the proof that ClaimFaces answers true for every input of bulk at most 1048576: conditions: the row's own. -/
import Derived.Test.YtbapfnpbamnmpaaGreatDoorCards
import Derived.ProofKit
import Derived.JoinedCond
import Derived.SevenTiedAt
namespace Go.Proofs.YtbapfnpbamnmpaaGreatDoor
section
open Go.ChangeShapes Go.WideShapes Go.ChangeAt Go.RowKit
theorem named6:Tryz.prog.funcNamed "inequality/inequalitylaw06.ClaimFaces" =some 9:=by kernel_rfl
theorem inst6:Tryz.f9.isInstance Tryz.prog Rows.claimFacesUptoRow.origin Rows.claimFacesUptoRow.targs:=of_decide_eq_true (by kernel_rfl)
theorem wrap6:Tryz.f9.isWrapper Tryz.prog Rows.claimFacesUptoRow.wrapper Rows.claimFacesUptoRow.mainSum:=by
 unfold Func.isWrapper;first|(rw[if_pos (by decide+kernel)];kernel_rfl)|(rw[if_neg (by decide+kernel)];exact⟨rfl,rfl⟩)
theorem wfText6:Rows.claimFacesUptoRow.wfByText (Rows.OpenSpec.upto Rows.claimFacesSpec)=true:=by kernel_rfl
theorem standIn31:Tryz.prog.wantsStandIn 31=false:=by kernel_rfl
theorem standIn4:Tryz.prog.wantsStandIn 4=false:=by kernel_rfl
theorem standIn9:Tryz.prog.wantsStandIn 9=false:=by kernel_rfl
theorem laidOut:laidOutB Tryz.prog=true:=by kernel_rfl
end
section
open Go Go.ChangeShapes Go.WideShapes Go.ChangeAt Go.RowKit
theorem looks6:true=Tryz.pinned.checked.prog.looks []:=by kernel_rfl
theorem mainIs6:Tryz.prog.mainIs=some (true,"72e93e87ee8499ba8651b3aedd998e33a401a45855a3730b7cc5859e7edf3b75".toList):=by kernel_rfl
theorem noGo:Tryz.prog.funcs.any Func.goes=false:=by kernel_rfl
theorem goes_false{P:Program}(h:P.funcs.any Func.goes=false)(f:FuncId):P.goes f=false:=by
 unfold Program.goes
 rw[h,Bool.and_false,Bool.or_false]
 rw[List.any_eq_false]
 intro g _
 cases hg:P.funcs[g]? with
 |none=>simp
 |some fn=>
  have:=Array.any_eq_false'.1 h fn (Array.mem_of_getElem? hg)
  simpa using this
end
end Go.Proofs.YtbapfnpbamnmpaaGreatDoor
