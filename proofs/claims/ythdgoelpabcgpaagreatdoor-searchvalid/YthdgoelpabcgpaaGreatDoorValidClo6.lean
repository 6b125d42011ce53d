/- A part of the proof that SearchValid answers true for every input: conditions: the row's own. -/
import Derived.Test.YthdgoelpabcgpaaGreatDoorValidClo3
import Derived.Test.YthdgoelpabcgpaaGreatDoorCards
import Derived.JoinedCond
section
namespace Go.Proofs.YthdgoelpabcgpaaGreatDoor
open Go Go.Proofs Go.Clo
theorem varsNamed3 : (Rows.searchValidRow.named == Tryz.prog.varsNamed 3) = true := by
  unfold Program.varsNamed
  rw [closure3]
  kernel_rfl
end Go.Proofs.YthdgoelpabcgpaaGreatDoor
end
