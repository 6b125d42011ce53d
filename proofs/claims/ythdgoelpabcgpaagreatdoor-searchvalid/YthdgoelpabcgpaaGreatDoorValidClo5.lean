/- A part of the proof that SearchValid answers true for every input: conditions: the row's own. -/
import Derived.Test.YthdgoelpabcgpaaGreatDoorValidClo3
import Derived.Test.YthdgoelpabcgpaaGreatDoorCards
import Derived.JoinedCond
section
namespace Go.Proofs.YthdgoelpabcgpaaGreatDoor
open Go Go.Proofs Go.Clo
theorem inPlace3 : (Rows.searchValidRow.inPlace == Tryz.prog.inPlace 3) = true := by
  unfold Program.inPlace
  rw [closure3]
  kernel_rfl
theorem unfollowed3 : Tryz.prog.unfollowed 3 = true := by
  unfold Program.unfollowed
  rw [closure3]
  kernel_rfl
theorem recurses3 : Tryz.prog.recurses 3 = true := by
  unfold Program.recurses
  rw [unfollowed3]
  rfl
end Go.Proofs.YthdgoelpabcgpaaGreatDoor
end
