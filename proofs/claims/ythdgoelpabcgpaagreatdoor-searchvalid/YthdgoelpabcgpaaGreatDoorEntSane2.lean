/- A part of the proof that SearchNil answers true for every input: conditions: the row's own. -/
import Derived.Test.YthdgoelpabcgpaaGreatDoorEntData
import Derived.Test.YthdgoelpabcgpaaGreatDoorEntSq
import Derived.Test.YthdgoelpabcgpaaGreatDoorEntReady1
import Derived.Test.YthdgoelpabcgpaaGreatDoorEntNew
import Derived.Test.YthdgoelpabcgpaaGreatDoorEntReady2
import Derived.Test.YthdgoelpabcgpaaGreatDoorEntApply
import Derived.Test.YthdgoelpabcgpaaGreatDoorEntAtt
section
open Go Go.Eng Go.Proofs
namespace Go.Proofs.YthdgoelpabcgpaaGreatDoor
theorem mix : Tryz.prog.follows .mixedOrders = true := by kernel_rfl
theorem okSq : entSq.Ok [0] Tryz.prog := Entry.ok_of (evalT_ok [0] _ mix (noTab_ok _ _) 5000).1 runSq
theorem okReady1 : entReady1.Ok [0] Tryz.prog := Entry.ok_of (evalT_ok [0] _ mix (noTab_ok _ _) 5000).1 runReady1
theorem okNew : entNew.Ok [0] Tryz.prog := Entry.ok_of (evalT_ok [0] _ mix (Entry.tab_ok okReady1 (noTab_ok _ _)) 5000).1 runNew
theorem okReady2 : entReady2.Ok [0] Tryz.prog := Entry.ok_of (evalT_ok [0] _ mix (noTab_ok _ _) 5000).1 runReady2
theorem okApply : entApply.Ok [0] Tryz.prog := Entry.ok_of (evalT_ok [0] _ mix (noTab_ok _ _) 5000).1 runApply
theorem okAtt : entAtt.Ok [0] Tryz.prog := Entry.ok_of (evalT_ok [0] _ mix (Entry.tab_ok okApply (Entry.tab_ok okReady2 (noTab_ok _ _))) 5000).1 runAtt
theorem runSane : isTrue ((evalT [0] Tryz.prog (entSq.tab (entNew.tab (entAtt.tab noTab))) 5000).call 7 [] H0) = true := by kernel_rfl
/-- **sane() answers true, whatever the tape, and leaves all that it found.** -/
theorem sane_calls (n : Nat) (w : World) (hw : LaidAt w) : CallsIn Fence.wide n Tryz.prog 7 #[] w (fun e w' => e = .returned (.bool true) ∧ Kept w w') :=
  true_of (args := []) (evalT_ok [0] _ mix (Entry.tab_ok okSq (Entry.tab_ok okNew (Entry.tab_ok okAtt (noTab_ok _ _)))) 5000).1 runSane rfl n hw
end Go.Proofs.YthdgoelpabcgpaaGreatDoor
end
