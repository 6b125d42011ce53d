/- A part of the proof that ClaimFaces answers true for every input of bulk at most 1048576: conditions: the row's own. -/
import Derived.Test.YtbapfnpbamnmpaaGreatDoorGz
import Derived.Test.YtbapfnpbamnmpaaGreatDoorXa
import Derived.Test.YtbapfnpbamnmpaaGreatDoorXe
namespace Go.Proofs.YtbapfnpbamnmpaaGreatDoor
open Go Go.RowKit Go.Dig Go.Deep
open Go.Eng (Kept KW KeptB wp_region_kw kw_call)
section
theorem info27:InfoIs 27 (.agg #[.int .i64 0,.int .i64 0,.bool false,.slice none 0 0,.slice none 0 0,.string ⟨#[]⟩,.slice none 0 0]) 7 112:=infoIs (by kernel_rfl)
theorem node_kids{op arg:Int}{s:Bool}{N D:Nat}{name:ByteArray}{n:Nat}(h:nodeOk op arg s N D name n=true):n≤3:=by
 unfold nodeOk at h
 simp only[Bool.and_eq_true,decide_eq_true_eq] at h
 have h1:=h.1.1
 unfold kidsI at h1
 repeat' split at h1
 all_goals omega
def kidR(f:Nat):World→List Value→Tree→Prop:=fun W l t=>Ex W f (.agg l.toArray) t
theorem kidR_sub(f:Nat):∀w w',Sub w w'→∀l t,kidR f w l t→kidR f w' l t:=fun _ _ k _ _ h=>h.sub k
set_option maxHeartbeats 8000000
set_option maxRecDepth 100000
end
section
set_option maxHeartbeats 16000000
set_option maxRecDepth 100000
end
section
set_option maxHeartbeats 16000000
set_option maxRecDepth 100000
end
end Go.Proofs.YtbapfnpbamnmpaaGreatDoor
