/- A part of the proof that SearchNil answers true for every input: conditions: the row's own. -/
import Derived.Test.YthdgoelpabcgpaaGreatDoorEntData
import Derived.Test.YthdgoelpabcgpaaGreatDoorProg
import Derived.KernelRfl
section
open Go Go.Eng Go.Proofs
namespace Go.Proofs.YthdgoelpabcgpaaGreatDoor
theorem runAtt : entAtt.chk ((evalT [0] Tryz.prog (entApply.tab (entReady2.tab noTab)) 5000).call entAtt.f entAtt.args entAtt.H) = true := by kernel_rfl
end Go.Proofs.YthdgoelpabcgpaaGreatDoor
end
