/- A part of the proof that SearchCandidates answers true for every input of bulk at most 1048576: conditions: the row's own. -/
import Derived.Test.YtancebninmoipaaGreatDoorP26
import Derived.Test.YtancebninmoipaaGreatDoorProg
import Derived.KernelRfl
namespace Go.Proofs.YtancebninmoipaaGreatDoor
open Go Go.Proofs
theorem noGo:Tryz.prog.funcs.any Func.goes=false:=by kernel_rfl
end Go.Proofs.YtancebninmoipaaGreatDoor
