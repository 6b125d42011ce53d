/- A part of the proof that SearchNil answers true for every input: conditions: the row's own. -/
import Derived.Test.YthdgoelpabcgpaaGreatDoorClo4
import Derived.Test.YthdgoelpabcgpaaGreatDoorCards
import Derived.JoinedCond
section
namespace Go.Proofs.YthdgoelpabcgpaaGreatDoor
open Go Go.Proofs Go.Clo
theorem varsNamed4 : (Rows.searchNilRow.named == Tryz.prog.varsNamed 4) = true := by
  unfold Program.varsNamed
  rw [closure4]
  kernel_rfl
end Go.Proofs.YthdgoelpabcgpaaGreatDoor
end
