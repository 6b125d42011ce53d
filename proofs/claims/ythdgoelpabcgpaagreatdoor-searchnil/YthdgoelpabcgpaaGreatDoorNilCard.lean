/- A part of the proof that SearchNil answers true for every input: conditions: the row's own. -/
import Derived.Test.YthdgoelpabcgpaaGreatDoorNilLift
import Derived.Test.YthdgoelpabcgpaaGreatDoorNilClosed
import Derived.Test.YthdgoelpabcgpaaGreatDoorNilFacts
import Derived.Test.YthdgoelpabcgpaaGreatDoorNilFacts2
import Derived.Test.YthdgoelpabcgpaaGreatDoorCloGo
import Derived.Test.YthdgoelpabcgpaaGreatDoorOwnTie
section
namespace Go.Proofs.YthdgoelpabcgpaaGreatDoor.nilLaw
open Go.ChangeShapes Go.WideShapes Go.ChangeAt Go.RowKit
theorem said : Rows.SearchNilSaid :=
  OpenClaim.holds_of_cond 4 Tryz.f4 rfl rfl rfl rfl rfl rfl rfl ⟨rfl, rfl, rfl, rfl, rfl⟩ rfl rfl rfl rfl rfl named Tryz.func4 closed inst wrap
    (fun os started H enc _ F => by rw [OpenClaim.pre_eq_preRow]; exact lifted os started H enc F)
theorem plain (f : FuncId) (fn : Func) (hf : Tryz.pinned.checked.prog.funcNamed "inequality/inequalitylaw08.SearchNil" = some f) (hfn : Tryz.pinned.checked.prog.funcs[f]? = some fn) :
    true = Tryz.pinned.checked.prog.looks [] ∧ ∀ (j : Nat) t, fn.params[j]? = some t → Tryz.pinned.checked.prog.wantsStandIn t = false := by
  obtain rfl : f = 4 := Option.some.inj (named.symm.trans hf) |>.symm
  obtain rfl : fn = Tryz.f4 := (Option.some.inj (Tryz.func4.symm.trans hfn)).symm
  refine ⟨looks, fun j t ht => ?_⟩
  rw [Tryz.params4] at ht
  obtain rfl : t = 3 := by simpa using Array.mem_of_getElem? ht
  exact standIn
theorem goes : false = Rows.searchNilRow.goesBy Tryz.prog := by
  have h : Tryz.prog.goes 4 = false := Clo.goes_false noGo 4
  have h2 : Rows.searchNilRow.goesBy Tryz.prog = (Tryz.prog.funcNamed "inequality/inequalitylaw08.SearchNil").any Tryz.prog.goes := by
    unfold OpenClaim.goesBy Program.goesAt Program.goesFrom
    rw [show Rows.searchNilRow.start = .entering from rfl, show Rows.searchNilRow.func = "inequality/inequalitylaw08.SearchNil" from rfl]
    simp only [Bool.or_false]
  rw [h2, named, Option.any_some, h]
theorem card : Rows.SearchNilCardSaid :=
  Claim7.holds_tied_plain_at .later [] _ _ _ _ said (fun _ h => by cases h) wfText (fun _ h => by cases h) nil_row_tie rfl ⟨rfl, rfl⟩ mainIs rfl plain goes
end Go.Proofs.YthdgoelpabcgpaaGreatDoor.nilLaw
end
