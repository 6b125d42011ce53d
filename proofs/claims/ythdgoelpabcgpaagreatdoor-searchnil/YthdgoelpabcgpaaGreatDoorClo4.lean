/- A part of the proof that SearchNil answers true for every input: conditions: the row's own. -/
import Derived.Test.YthdgoelpabcgpaaGreatDoorClo4r
section
namespace Go.Proofs.YthdgoelpabcgpaaGreatDoor
open Go Go.Proofs Go.Clo
set_option maxRecDepth 100000 in
theorem clo4_fuel : Nat.ble 2838 (1 + (leadAll.map fun l => l.length + 1).sum) = true := by kernel_rfl
set_option maxRecDepth 100000 in
theorem closure4 : Tryz.prog.closure 4 = clo4 := closure_eq leadsAll clo4_run clo4_fuel
end Go.Proofs.YthdgoelpabcgpaaGreatDoor
end
