/- A part of the proof that SearchNil answers true for every input: conditions: the row's own. -/
import Derived.Test.YthdgoelpabcgpaaGreatDoorCards
import Derived.ProofKit
import Derived.JoinedCond
import Derived.SevenTiedAt
section
namespace Go.Proofs.YthdgoelpabcgpaaGreatDoor.nilLaw
open Go.ChangeShapes Go.WideShapes Go.ChangeAt Go.RowKit

theorem named : Tryz.prog.funcNamed "inequality/inequalitylaw08.SearchNil" = some 4 := by kernel_rfl
theorem inst : Tryz.f4.isInstance Tryz.prog Rows.searchNilRow.origin Rows.searchNilRow.targs := of_decide_eq_true (by kernel_rfl)
theorem wrap : Tryz.f4.isWrapper Tryz.prog Rows.searchNilRow.wrapper Rows.searchNilRow.mainSum := by
  unfold Func.isWrapper; first | (rw [if_pos (by decide +kernel)]; kernel_rfl) | (rw [if_neg (by decide +kernel)]; exact ⟨rfl, rfl⟩)
theorem wfText : Rows.searchNilRow.wfByText (OpenSpec.ofChange Rows.searchNilSpec) = true := by kernel_rfl
theorem standIn : Tryz.prog.wantsStandIn 3 = false := by kernel_rfl
end Go.Proofs.YthdgoelpabcgpaaGreatDoor.nilLaw
end
