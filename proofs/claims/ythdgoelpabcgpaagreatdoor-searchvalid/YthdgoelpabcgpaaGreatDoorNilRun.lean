/- A part of the proof that SearchNil answers true for every input: conditions: the row's own. -/
import Derived.Test.YthdgoelpabcgpaaGreatDoorEntSane2
section
open Go Go.Eng Go.Proofs
namespace Go.Proofs.YthdgoelpabcgpaaGreatDoor
noncomputable abbrev nilEv : Ev := evalT [0] Tryz.prog (trueTab 7 noTab) 5000
theorem nilEv_ok : EvOk [0] Tryz.prog nilEv := (evalT_ok [0] _ mix (trueTab_ok (noTab_ok _ _) fun n w h => sane_calls n w h) 5000).1
theorem runNil0 : isTrue (nilEv.call 4 [.int .i64 (.ofNat 0)] H0) = true := by kernel_rfl
theorem runNil1 (m : Nat) : isTrue (nilEv.call 4 [.int .i64 (.ofNat (m + 1))] H0) = true := by kernel_rfl
theorem runNil2 : isTrue (nilEv.call 4 [.int .i64 (.negSucc 0)] H0) = true := by kernel_rfl
theorem runNil3 (m : Nat) : isTrue (nilEv.call 4 [.int .i64 (.negSucc (m + 1))] H0) = true := by kernel_rfl
theorem runNil (i : Int) : isTrue (nilEv.call 4 [.int .i64 i] H0) = true :=
  match i with
  | .ofNat 0 => runNil0
  | .ofNat (m + 1) => runNil1 m
  | .negSucc 0 => runNil2
  | .negSucc (m + 1) => runNil3 m
theorem nil_calls (i : Int) (n : Nat) (w : World) (hw : LaidAt w) : CallsIn Fence.wide n Tryz.prog 4 #[.int .i64 i] w (fun e w' => e = .returned (.bool true) ∧ Kept w w') :=
  true_of (args := [.int .i64 i]) nilEv_ok (runNil i) rfl n hw
end Go.Proofs.YthdgoelpabcgpaaGreatDoor
end
