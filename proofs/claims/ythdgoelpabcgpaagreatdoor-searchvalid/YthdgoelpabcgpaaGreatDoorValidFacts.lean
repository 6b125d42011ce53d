/- A part of the proof that SearchValid answers true for every input: conditions: the row's own. -/
import Derived.Test.YthdgoelpabcgpaaGreatDoorCards
import Derived.ProofKit
import Derived.JoinedCond
import Derived.SevenTiedAt
section
namespace Go.Proofs.YthdgoelpabcgpaaGreatDoor.validLaw
open Go.ChangeShapes Go.WideShapes Go.ChangeAt Go.RowKit

theorem named : Tryz.prog.funcNamed "inequality/inequalitylaw08.SearchValid" = some 3 := by kernel_rfl
theorem inst : Tryz.f3.isInstance Tryz.prog Rows.searchValidRow.origin Rows.searchValidRow.targs := of_decide_eq_true (by kernel_rfl)
theorem wrap : Tryz.f3.isWrapper Tryz.prog Rows.searchValidRow.wrapper Rows.searchValidRow.mainSum := by
  unfold Func.isWrapper; first | (rw [if_pos (by decide +kernel)]; kernel_rfl) | (rw [if_neg (by decide +kernel)]; exact ⟨rfl, rfl⟩)
theorem wfText : Rows.searchValidRow.wfByText (OpenSpec.ofChange Rows.searchValidSpec) = true := by kernel_rfl
theorem standIn : Tryz.prog.wantsStandIn 23 = false := by kernel_rfl
end Go.Proofs.YthdgoelpabcgpaaGreatDoor.validLaw
end
