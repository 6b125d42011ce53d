/- A part of the proof that SearchNil answers true for every input: conditions: the row's own. -/
import Derived.Test.YthdgoelpabcgpaaGreatDoorEntData
import Derived.Test.YthdgoelpabcgpaaGreatDoorProg
import Derived.KernelRfl
section
open Go Go.Eng Go.Proofs
namespace Go.Proofs.YthdgoelpabcgpaaGreatDoor
theorem runNew : entNew.chk ((evalT [0] Tryz.prog (entReady1.tab noTab) 5000).call entNew.f entNew.args entNew.H) = true := by kernel_rfl
end Go.Proofs.YthdgoelpabcgpaaGreatDoor
end
