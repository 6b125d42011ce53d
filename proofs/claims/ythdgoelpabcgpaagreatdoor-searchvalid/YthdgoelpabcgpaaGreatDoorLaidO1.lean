/- A part of the proof that SearchNil answers true for every input: conditions: the row's own. -/
import Derived.Test.YthdgoelpabcgpaaGreatDoorCards
import Derived.JoinedCond
section
namespace Go.Proofs.YthdgoelpabcgpaaGreatDoor
open Go Go.Proofs
theorem laid1 : (List.range Tryz.prog.types.size).all (rowFine Tryz.prog) = true := by kernel_rfl
end Go.Proofs.YthdgoelpabcgpaaGreatDoor
end
