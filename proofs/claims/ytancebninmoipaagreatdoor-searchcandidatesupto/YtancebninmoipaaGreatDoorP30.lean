/- A part of the proof that SearchCandidates answers true for every input of bulk at most 1048576: conditions: the row's own. -/
import Derived.Test.YtancebninmoipaaGreatDoorCards
import Derived.ProofKit
import Derived.JoinedCond
import Derived.SevenTiedAt
namespace Go.Proofs.YtancebninmoipaaGreatDoor
open Go.ChangeShapes Go.WideShapes Go.ChangeAt Go.RowKit
theorem named6:Tryz.prog.funcNamed "inequality/inequalitylaw08.SearchCandidates" =some 3:=by kernel_rfl
theorem inst6:Tryz.f3.isInstance Tryz.prog Rows.searchCandidatesUptoRow.origin Rows.searchCandidatesUptoRow.targs:=of_decide_eq_true (by kernel_rfl)
theorem wrap6:Tryz.f3.isWrapper Tryz.prog Rows.searchCandidatesUptoRow.wrapper Rows.searchCandidatesUptoRow.mainSum:=by
 unfold Func.isWrapper;first|(rw[if_pos (by decide+kernel)];kernel_rfl)|(rw[if_neg (by decide+kernel)];exact⟨rfl,rfl⟩)
theorem wfText6:Rows.searchCandidatesUptoRow.wfByText (Rows.OpenSpec.upto Rows.searchCandidatesSpec)=true:=by kernel_rfl
theorem standIn31:Tryz.prog.wantsStandIn 31=false:=by kernel_rfl
theorem looks6:true=Tryz.pinned.checked.prog.looks []:=by kernel_rfl
theorem mainIs6:Tryz.prog.mainIs=some (true,"52022c895341eed1970b0b523671b2e0f8197a7650c79aff74898adb7afc18fa".toList):=by kernel_rfl
end Go.Proofs.YtancebninmoipaaGreatDoor
