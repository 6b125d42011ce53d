/- A part of the proof that SearchNil answers true for every input: conditions: the row's own. -/
import Derived.Test.YthdgoelpabcgpaaGreatDoorCards
import Derived.ProofKit
import Derived.JoinedCond
import Derived.SevenTiedAt
section
namespace Go.Proofs.YthdgoelpabcgpaaGreatDoor.nilLaw
open Go.ChangeShapes Go.WideShapes Go.ChangeAt Go.RowKit

theorem looks : true = Tryz.prog.looks [] := by kernel_rfl
theorem mainIs : Tryz.prog.mainIs = some (true, "1453241411753c4ba35fcbe951495cf4dbb104adf8551fb7a0355b6575cb5086".toList) := by kernel_rfl
end Go.Proofs.YthdgoelpabcgpaaGreatDoor.nilLaw
end
