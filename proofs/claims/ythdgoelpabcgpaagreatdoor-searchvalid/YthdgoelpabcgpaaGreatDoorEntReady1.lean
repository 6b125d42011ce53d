/- A part of the proof that SearchNil answers true for every input: conditions: the row's own. -/
import Derived.Test.YthdgoelpabcgpaaGreatDoorEntData
import Derived.Test.YthdgoelpabcgpaaGreatDoorProg
import Derived.KernelRfl
section
open Go Go.Eng Go.Proofs
namespace Go.Proofs.YthdgoelpabcgpaaGreatDoor
theorem runReady1 : entReady1.chk ((evalT [0] Tryz.prog noTab 5000).call entReady1.f entReady1.args entReady1.H) = true := by kernel_rfl
end Go.Proofs.YthdgoelpabcgpaaGreatDoor
end
