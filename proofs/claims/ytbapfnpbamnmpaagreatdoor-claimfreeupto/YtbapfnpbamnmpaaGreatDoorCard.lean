/- A part of the proof that ClaimFree answers true for every input of bulk at most 1048576: conditions: the row's own. -/
import Derived.Test.YtbapfnpbamnmpaaGreatDoorOb
import Derived.Test.YtbapfnpbamnmpaaGreatDoorCa
import Derived.Test.YtbapfnpbamnmpaaGreatDoorFf
import Derived.Test.YtbapfnpbamnmpaaGreatDoorCb
import Derived.Test.YtbapfnpbamnmpaaGreatDoorTie
section
namespace Go.Proofs.YtbapfnpbamnmpaaGreatDoor
open Go.ChangeShapes Go.WideShapes Go.ChangeAt Go.RowKit
set_option maxRecDepth 100000 in
theorem lifted6 (os : Os) (started : os.Started) (H : Type) (enc : TypeId × Value → H) (F : Stop.Interp) :
    ReturnsInHanded {} Tryz.checked os 6 .any ((Rows.OpenSpec.upto Rows.claimFreeSpec).preRow enc Tryz.prog Tryz.f6 Rows.claimFreeUptoRow.domain false Rows.claimFreeUptoRow.laid) (((Rows.OpenSpec.upto Rows.claimFreeSpec).at F).post enc Tryz.prog Tryz.f6 false true false false) := by
  refine returnsInHanded_of_row (C := Tryz.checked) (s := Rows.OpenSpec.upto Rows.claimFreeSpec) own6 started noInit6 Tryz.func6 (witness6 os enc) ?_
  intro W base args ds gs before hval hW _ hcond _ hL hs _
  exact contract6 laidOut H enc W base args ds gs before hval hW (hcond _ rfl) hL hs
theorem said6 : Rows.ClaimFreeUptoSaid :=
  OpenClaim.holds_of_cond 6 Tryz.f6 rfl rfl rfl rfl rfl rfl rfl ⟨rfl, rfl, rfl, rfl, rfl⟩ rfl rfl rfl rfl rfl named6 Tryz.func6 closed6 inst6 wrap6
    (fun os started H enc _ F => by rw [OpenClaim.pre_eq_preRow]; exact lifted6 os started H enc F)
theorem plain6 (f : FuncId) (fn : Func) (hf : Tryz.pinned.checked.prog.funcNamed "inequality/inequalitylaw06.ClaimFree" = some f) (hfn : Tryz.pinned.checked.prog.funcs[f]? = some fn) :
    true = Tryz.pinned.checked.prog.looks [] ∧ ∀ (j : Nat) t, fn.params[j]? = some t → Tryz.pinned.checked.prog.wantsStandIn t = false := by
  obtain rfl : f = 6 := Option.some.inj (named6.symm.trans hf) |>.symm
  obtain rfl : fn = Tryz.f6 := (Option.some.inj (Tryz.func6.symm.trans hfn)).symm
  refine ⟨looks6, fun j t ht => ?_⟩
  rw [Tryz.params6] at ht
  have : t = 31 ∨ t = 9 := by simpa using Array.mem_of_getElem? ht
  rcases this with rfl | rfl
  · exact standIn31
  · exact standIn9
theorem goes6 : false = Rows.claimFreeUptoRow.goesBy Tryz.prog := by
  have h : Tryz.prog.goes 6 = false := goes_false noGo 6
  have h2 : Rows.claimFreeUptoRow.goesBy Tryz.prog = (Tryz.prog.funcNamed "inequality/inequalitylaw06.ClaimFree").any Tryz.prog.goes := by
    unfold OpenClaim.goesBy Program.goesAt Program.goesFrom
    rw [show Rows.claimFreeUptoRow.start = .entering from rfl, show Rows.claimFreeUptoRow.func = "inequality/inequalitylaw06.ClaimFree" from rfl]
    simp only [Bool.or_false]
  rw [h2, named6, Option.any_some, h]
theorem card6 : Rows.ClaimFreeUptoCardSaid :=
  Claim7.holds_tied_plain_at .later [] _ _ _ _ said6 (fun _ h => by cases h) wfText6 (fun _ h => by cases h) claimFreeUpto_row_tie rfl ⟨rfl, rfl⟩ mainIs6 rfl plain6 goes6
end Go.Proofs.YtbapfnpbamnmpaaGreatDoor
end
