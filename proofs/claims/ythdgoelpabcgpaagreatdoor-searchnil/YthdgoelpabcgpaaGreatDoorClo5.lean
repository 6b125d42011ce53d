/- A part of the proof that SearchNil answers true for every input: conditions: the row's own. -/
import Derived.Test.YthdgoelpabcgpaaGreatDoorClo4
import Derived.Test.YthdgoelpabcgpaaGreatDoorCards
import Derived.JoinedCond
section
namespace Go.Proofs.YthdgoelpabcgpaaGreatDoor
open Go Go.Proofs Go.Clo
theorem inPlace4 : (Rows.searchNilRow.inPlace == Tryz.prog.inPlace 4) = true := by
  unfold Program.inPlace
  rw [closure4]
  kernel_rfl
theorem unfollowed4 : Tryz.prog.unfollowed 4 = true := by
  unfold Program.unfollowed
  rw [closure4]
  kernel_rfl
theorem recurses4 : Tryz.prog.recurses 4 = true := by
  unfold Program.recurses
  rw [unfollowed4]
  rfl
end Go.Proofs.YthdgoelpabcgpaaGreatDoor
end
