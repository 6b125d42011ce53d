/- A part of the proof that SearchCandidates answers true for every input of bulk at most 1048576: conditions: the row's own. -/
import Derived.Test.YtancebninmoipaaGreatDoorP44
import Derived.Test.YtancebninmoipaaGreatDoorCards
import Derived.JoinedCond
namespace Go.Proofs.YtancebninmoipaaGreatDoor
open Go Go.Proofs Go.Clo
theorem varsNamed3:(Rows.searchCandidatesUptoRow.named==Tryz.prog.varsNamed 3)=true:=by
 unfold Program.varsNamed
 rw[closure3]
 kernel_rfl
end Go.Proofs.YtancebninmoipaaGreatDoor
