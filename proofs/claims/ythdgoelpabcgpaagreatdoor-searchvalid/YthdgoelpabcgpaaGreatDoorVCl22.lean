/- A part of the proof that SearchValid answers true for every input: conditions: the row's own. -/
import Derived.Test.YthdgoelpabcgpaaGreatDoorCards
import Derived.JoinedCond
section
namespace Go.Proofs.YthdgoelpabcgpaaGreatDoor.validLaw
theorem cl22 : (fun (P : Program) (_f : FuncId) (_fn : Func) (_s : ChangeSpec) (c : OpenClaim) => ((c.plainKeys == P.plainKeys) : Bool)) Tryz.prog 3 Tryz.f3 (OpenSpec.ofChange Rows.searchValidSpec).bare Rows.searchValidRow = true := by kernel_rfl
end Go.Proofs.YthdgoelpabcgpaaGreatDoor.validLaw
end
