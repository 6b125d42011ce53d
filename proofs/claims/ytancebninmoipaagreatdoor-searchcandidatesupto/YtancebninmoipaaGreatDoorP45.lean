/- A part of the proof that SearchCandidates answers true for every input of bulk at most 1048576: conditions: the row's own. -/
import Derived.Test.YtancebninmoipaaGreatDoorP44
import Derived.Test.YtancebninmoipaaGreatDoorCards
import Derived.JoinedCond
namespace Go.Proofs.YtancebninmoipaaGreatDoor
open Go Go.Proofs Go.Clo
theorem inPlace3:(Rows.searchCandidatesUptoRow.inPlace==Tryz.prog.inPlace 3)=true:=by
 unfold Program.inPlace
 rw[closure3]
 kernel_rfl
theorem unfollowed3:Tryz.prog.unfollowed 3=true:=by
 unfold Program.unfollowed
 rw[closure3]
 kernel_rfl
theorem recurses3:Tryz.prog.recurses 3=true:=by
 unfold Program.recurses
 rw[unfollowed3]
 rfl
end Go.Proofs.YtancebninmoipaaGreatDoor
