/- A part of the proof that ClaimBranches answers true for every input of bulk at most 1048576: conditions: the row's own. -/
import Derived.Test.YtbapfnpbamnmpaaGreatDoorOb
import Derived.Test.YtbapfnpbamnmpaaGreatDoorCa
import Derived.Test.YtbapfnpbamnmpaaGreatDoorFe
import Derived.Test.YtbapfnpbamnmpaaGreatDoorCb
import Derived.Test.YtbapfnpbamnmpaaGreatDoorTie
namespace Go.Proofs.YtbapfnpbamnmpaaGreatDoor
open Go.ChangeShapes Go.WideShapes Go.ChangeAt Go.RowKit
set_option maxRecDepth 100000 in
theorem lifted6(os:Os)(started:os.Started)(H:Type)(enc:TypeId×Value→H)(F:Stop.Interp):
 ReturnsInHanded {} Tryz.checked os 10 .any ((Rows.OpenSpec.upto Rows.claimBranchesSpec).preRow enc Tryz.prog Tryz.f10 Rows.claimBranchesUptoRow.domain false Rows.claimBranchesUptoRow.laid) (((Rows.OpenSpec.upto Rows.claimBranchesSpec).at F).post enc Tryz.prog Tryz.f10 false true false false):=by
 refine returnsInHanded_of_row (C:=Tryz.checked) (s:=Rows.OpenSpec.upto Rows.claimBranchesSpec) own6 started noInit6 Tryz.func10 (witness6 os enc) ?_
 intro W base args ds gs before hval hW _ hcond _ hL hs _
 exact contract10 laidOut H enc W base args ds gs before hval hW (hcond _ rfl) hL hs
theorem said6:Rows.ClaimBranchesUptoSaid:=
 OpenClaim.holds_of_cond 10 Tryz.f10 rfl rfl rfl rfl rfl rfl rfl ⟨rfl,rfl,rfl,rfl,rfl⟩ rfl rfl rfl rfl rfl named6 Tryz.func10 closed6 inst6 wrap6
  (fun os started H enc _ F=>by rw[OpenClaim.pre_eq_preRow];exact lifted6 os started H enc F)
theorem plain6(f:FuncId)(fn:Func)(hf:Tryz.pinned.checked.prog.funcNamed "inequality/inequalitylaw06.ClaimBranches" =some f)(hfn:Tryz.pinned.checked.prog.funcs[f]? =some fn):
 true=Tryz.pinned.checked.prog.looks []∧∀(j:Nat) t,fn.params[j]? =some t→Tryz.pinned.checked.prog.wantsStandIn t=false:=by
 obtain rfl:f=10:=Option.some.inj (named6.symm.trans hf) |>.symm
 obtain rfl:fn=Tryz.f10:=(Option.some.inj (Tryz.func10.symm.trans hfn)).symm
 refine⟨looks6,fun j t ht=> ?_⟩
 rw[Tryz.params10] at ht
 have:t=31:=by simpa using Array.mem_of_getElem? ht
 subst this
 exact standIn31
theorem goes6:false=Rows.claimBranchesUptoRow.goesBy Tryz.prog:=by
 have h:Tryz.prog.goes 10=false:=goes_false noGo 10
 have h2:Rows.claimBranchesUptoRow.goesBy Tryz.prog=(Tryz.prog.funcNamed "inequality/inequalitylaw06.ClaimBranches").any Tryz.prog.goes:=by
  unfold OpenClaim.goesBy Program.goesAt Program.goesFrom
  rw[show Rows.claimBranchesUptoRow.start= .entering from rfl,show Rows.claimBranchesUptoRow.func= "inequality/inequalitylaw06.ClaimBranches" from rfl]
  simp only[Bool.or_false]
 rw[h2,named6,Option.any_some,h]
theorem card10:Rows.ClaimBranchesUptoCardSaid:=
 Claim7.holds_tied_plain_at .later [] _ _ _ _ said6 (fun _ h=>by cases h) wfText6 (fun _ h=>by cases h) claimBranchesUpto_row_tie rfl ⟨rfl,rfl⟩ mainIs6 rfl plain6 goes6
end Go.Proofs.YtbapfnpbamnmpaaGreatDoor
