/- A part of the proof that ClaimFaces answers true for every input of bulk at most 1048576: conditions: the row's own. -/
import Derived.Test.YtbapfnpbamnmpaaGreatDoorSc
namespace Go.Proofs.YtbapfnpbamnmpaaGreatDoor
open Go Go.RowKit Go.Shelf Go.Eng
theorem runSane6:isTrue6 ((evalT [3] Tryz.prog tab6 5000).call 14 [] H0)=true:=by kernel_rfl
theorem sane6_calls(w:World)(hw:Laid6 w):Calls Tryz.prog 14 #[] w (fun e w'=>e= .returned (.bool true)∧Kept w w'):=
 callsIn_wide.1 (true_of6 (args:=[]) (evalT_ok [3] _ mix6 tab6_ok 5000).1 runSane6 rfl 6 hw)
end Go.Proofs.YtbapfnpbamnmpaaGreatDoor
