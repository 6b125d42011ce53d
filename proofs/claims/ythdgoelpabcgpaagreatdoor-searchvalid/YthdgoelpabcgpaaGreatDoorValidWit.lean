/- A part of the proof that SearchValid answers true for every input: conditions: the row's own. -/
import Derived.Test.YthdgoelpabcgpaaGreatDoorCards
import Derived.ProofKit
import Derived.LaidMore
import Derived.Deep.DeepHandedRow
section
namespace Go.Proofs.YthdgoelpabcgpaaGreatDoor.validLaw
open Go.ChangeShapes Go.WideShapes Go.ChangeAt Go.RowKit
theorem laid_met (os : Os) : laidMet Tryz.prog Rows.searchValidRow.laid ((World.doorLaid Tryz.prog 400 os).forCall (fun _ _ => 0) ⟨#[], #[.agg #[.int .i64 0, .int .i64 0, .int .i64 0]], []⟩).memory :=
  laidMet_of_run' 8 (by kernel_rfl) (by kernel_rfl)
end Go.Proofs.YthdgoelpabcgpaaGreatDoor.validLaw
end
