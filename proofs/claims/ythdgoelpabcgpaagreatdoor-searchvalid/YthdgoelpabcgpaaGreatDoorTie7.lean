/- A part of the proof that SearchNil answers true for every input: conditions: the row's own. -/
import Derived.Test.YthdgoelpabcgpaaGreatDoorRows
import Derived.LaidByTextLater
import Derived.SevenTiedAt
section
namespace Go.Proofs.YthdgoelpabcgpaaGreatDoor
open Go
theorem tie7 : ∀ os tape, varsDone Tryz.prog 400 (varsId Tryz.prog) os tape = true := fun _ _ => by kernel_rfl
end Go.Proofs.YthdgoelpabcgpaaGreatDoor
end
