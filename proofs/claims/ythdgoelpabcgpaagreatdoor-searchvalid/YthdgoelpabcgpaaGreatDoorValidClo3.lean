/- A part of the proof that SearchValid answers true for every input: conditions: the row's own. -/
import Derived.Test.YthdgoelpabcgpaaGreatDoorValidClo3r
section
namespace Go.Proofs.YthdgoelpabcgpaaGreatDoor
open Go Go.Proofs Go.Clo
set_option maxRecDepth 100000 in
theorem clo3_fuel : Nat.ble 2086 (1 + (leadAll.map fun l => l.length + 1).sum) = true := by kernel_rfl
set_option maxRecDepth 100000 in
theorem closure3 : Tryz.prog.closure 3 = clo3 := closure_eq leadsAll clo3_run clo3_fuel
end Go.Proofs.YthdgoelpabcgpaaGreatDoor
end
