/- A part of the proof that SearchNil answers true for every input: conditions: the row's own. -/
import Derived.Test.YthdgoelpabcgpaaGreatDoorCards
import Derived.JoinedCond
section
namespace Go.Proofs.YthdgoelpabcgpaaGreatDoor.nilLaw
theorem cl24 : (fun (P : Program) (_f : FuncId) (_fn : Func) (_s : ChangeSpec) (_c : OpenClaim) => (P.stopsHeard : Bool)) Tryz.prog 4 Tryz.f4 (OpenSpec.ofChange Rows.searchNilSpec).bare Rows.searchNilRow = true := by kernel_rfl
end Go.Proofs.YthdgoelpabcgpaaGreatDoor.nilLaw
end
