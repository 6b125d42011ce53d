/- A part of the proof that the text which Print makes of a parsed text is a normal form -/
import Derived.Test.YtbapfnpbamnmpaaGreatDoorP00
import Derived.Test.YtbapfnpbamnmpaaGreatDoorCards
import Derived.ProofKit
import Derived.JoinedCond
import Derived.SevenTiedAt
set_option maxHeartbeats 8000000
set_option maxRecDepth 100000
namespace Go.Proofs.YtbapfnpbamnmpaaGreatDoor
open Go Go.RowKit Go.Dig Go.Deep Go.Eng Go.Proofs.Tryz
section
open Go.ChangeShapes Go.WideShapes Go.ChangeAt Go.RowKit
theorem M5:prog.funcNamed "inequality/inequalitylaw06.ClaimNormal" =some 5:=by kernel_rfl
theorem inst6:Tryz.f5.isInstance prog Rows.claimNormalRow.origin Rows.claimNormalRow.targs:=kC (by kernel_rfl)
theorem af1:Tryz.f5.isWrapper prog Rows.claimNormalRow.wrapper Rows.claimNormalRow.mainSum:=by
 unfold Func.isWrapper;first|(rw[if_pos (by decide+kernel)];kernel_rfl)|(rw[if_neg (by decide+kernel)];exact⟨rfl,rfl⟩)
theorem Yp:Rows.claimNormalRow.wfByText (OpenSpec.ofChange Rows.claimNormalSpec)=true:=by kernel_rfl
theorem UG:prog.wantsStandIn 9=false:=by kernel_rfl
theorem laidOut:laidOutB prog=true:=by kernel_rfl
end
end Go.Proofs.YtbapfnpbamnmpaaGreatDoor
