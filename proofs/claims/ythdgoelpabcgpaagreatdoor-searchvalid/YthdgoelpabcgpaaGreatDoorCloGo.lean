/- A part of the proof that SearchNil answers true for every input: conditions: the row's own. -/
import Derived.Test.YthdgoelpabcgpaaGreatDoorClo
import Derived.Test.YthdgoelpabcgpaaGreatDoorProg
import Derived.KernelRfl
section
namespace Go.Proofs.YthdgoelpabcgpaaGreatDoor
open Go Go.Proofs
theorem noGo : Tryz.prog.funcs.any Func.goes = false := by kernel_rfl
end Go.Proofs.YthdgoelpabcgpaaGreatDoor
end
