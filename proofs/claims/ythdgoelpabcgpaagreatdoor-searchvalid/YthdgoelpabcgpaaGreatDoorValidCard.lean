/- A part of the proof that SearchValid answers true for every input: conditions: the row's own. -/
import Derived.Test.YthdgoelpabcgpaaGreatDoorValidLift
import Derived.Test.YthdgoelpabcgpaaGreatDoorValidClosed
import Derived.Test.YthdgoelpabcgpaaGreatDoorValidFacts
import Derived.Test.YthdgoelpabcgpaaGreatDoorNilFacts2
import Derived.Test.YthdgoelpabcgpaaGreatDoorCloGo
import Derived.Test.YthdgoelpabcgpaaGreatDoorOwnTie
section
namespace Go.Proofs.YthdgoelpabcgpaaGreatDoor.validLaw
open Go.ChangeShapes Go.WideShapes Go.ChangeAt Go.RowKit
theorem said : Rows.SearchValidSaid :=
  OpenClaim.holds_of_cond 3 Tryz.f3 rfl rfl rfl rfl rfl rfl rfl ⟨rfl, rfl, rfl, rfl, rfl⟩ rfl rfl rfl rfl rfl named Tryz.func3 closed inst wrap
    (fun os started H enc _ F => by rw [OpenClaim.pre_eq_preRow]; exact lifted os started H enc F)
theorem plain (f : FuncId) (fn : Func) (hf : Tryz.pinned.checked.prog.funcNamed "inequality/inequalitylaw08.SearchValid" = some f) (hfn : Tryz.pinned.checked.prog.funcs[f]? = some fn) :
    true = Tryz.pinned.checked.prog.looks [] ∧ ∀ (j : Nat) t, fn.params[j]? = some t → Tryz.pinned.checked.prog.wantsStandIn t = false := by
  obtain rfl : f = 3 := Option.some.inj (named.symm.trans hf) |>.symm
  obtain rfl : fn = Tryz.f3 := (Option.some.inj (Tryz.func3.symm.trans hfn)).symm
  refine ⟨nilLaw.looks, fun j t ht => ?_⟩
  rw [Tryz.params3] at ht
  obtain rfl : t = 23 := by simpa using Array.mem_of_getElem? ht
  exact standIn
theorem goes : false = Rows.searchValidRow.goesBy Tryz.prog := by
  have h : Tryz.prog.goes 3 = false := Clo.goes_false noGo 3
  have h2 : Rows.searchValidRow.goesBy Tryz.prog = (Tryz.prog.funcNamed "inequality/inequalitylaw08.SearchValid").any Tryz.prog.goes := by
    unfold OpenClaim.goesBy Program.goesAt Program.goesFrom
    rw [show Rows.searchValidRow.start = .entering from rfl, show Rows.searchValidRow.func = "inequality/inequalitylaw08.SearchValid" from rfl]
    simp only [Bool.or_false]
  rw [h2, named, Option.any_some, h]
theorem card : Rows.SearchValidCardSaid :=
  Claim7.holds_tied_plain_at .later [] _ _ _ _ said (fun _ h => by cases h) wfText (fun _ h => by cases h) valid_row_tie rfl ⟨rfl, rfl⟩ nilLaw.mainIs rfl plain goes
end Go.Proofs.YthdgoelpabcgpaaGreatDoor.validLaw
end
