/- A part of the proof that SearchCandidates answers true for every input of bulk at most 1048576: conditions: the row's own. -/
import Derived.Test.YtancebninmoipaaGreatDoorCards
import Derived.JoinedCond
namespace Go.Proofs.YtancebninmoipaaGreatDoor
open Go Go.Proofs
theorem laid1:(List.range Tryz.prog.types.size).all (rowFine Tryz.prog)=true:=by kernel_rfl
theorem laid2:Tryz.prog.globals.all (fun g=>decide (g.type<Tryz.prog.types.size))=true:=by kernel_rfl
theorem laid3:Tryz.prog.funcs.all (fun f=>f.params.all fun t=>decide (t<Tryz.prog.types.size))=true:=by kernel_rfl
end Go.Proofs.YtancebninmoipaaGreatDoor
