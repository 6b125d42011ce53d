/- A part of the proof that ClaimFaces answers true for every input of bulk at most 1048576: conditions: the row's own. -/
import Derived.Test.YtbapfnpbamnmpaaGreatDoorOb
import Derived.Test.YtbapfnpbamnmpaaGreatDoorCa
import Derived.Test.YtbapfnpbamnmpaaGreatDoorFe
import Derived.Test.YtbapfnpbamnmpaaGreatDoorCb
import Derived.Test.YtbapfnpbamnmpaaGreatDoorTie
namespace Go.Proofs.YtbapfnpbamnmpaaGreatDoor
open Go.ChangeShapes Go.WideShapes Go.ChangeAt Go.RowKit
set_option maxRecDepth 100000 in
theorem lifted6(os:Os)(started:os.Started)(H:Type)(enc:TypeId×Value→H)(F:Stop.Interp):
 ReturnsInHanded {} Tryz.checked os 9 .any ((Rows.OpenSpec.upto Rows.claimFacesSpec).preRow enc Tryz.prog Tryz.f9 Rows.claimFacesUptoRow.domain false Rows.claimFacesUptoRow.laid) (((Rows.OpenSpec.upto Rows.claimFacesSpec).at F).post enc Tryz.prog Tryz.f9 false true false false):=by
 refine returnsInHanded_of_row (C:=Tryz.checked) (s:=Rows.OpenSpec.upto Rows.claimFacesSpec) own6 started noInit6 Tryz.func9 (witness6 os enc) ?_
 intro W base args ds gs before hval hW _ hcond _ hL hs _
 exact contract9 laidOut H enc W base args ds gs before hval hW (hcond _ rfl) hL hs
theorem said6:Rows.ClaimFacesUptoSaid:=
 OpenClaim.holds_of_cond 9 Tryz.f9 rfl rfl rfl rfl rfl rfl rfl ⟨rfl,rfl,rfl,rfl,rfl⟩ rfl rfl rfl rfl rfl named6 Tryz.func9 closed6 inst6 wrap6
  (fun os started H enc _ F=>by rw[OpenClaim.pre_eq_preRow];exact lifted6 os started H enc F)
theorem plain6(f:FuncId)(fn:Func)(hf:Tryz.pinned.checked.prog.funcNamed "inequality/inequalitylaw06.ClaimFaces" =some f)(hfn:Tryz.pinned.checked.prog.funcs[f]? =some fn):
 true=Tryz.pinned.checked.prog.looks []∧∀(j:Nat) t,fn.params[j]? =some t→Tryz.pinned.checked.prog.wantsStandIn t=false:=by
 obtain rfl:f=9:=Option.some.inj (named6.symm.trans hf) |>.symm
 obtain rfl:fn=Tryz.f9:=(Option.some.inj (Tryz.func9.symm.trans hfn)).symm
 refine⟨looks6,fun j t ht=> ?_⟩
 rw[Tryz.params9] at ht
 have:t=31∨t=9∨t=4:=by simpa using Array.mem_of_getElem? ht
 rcases this with rfl|rfl|rfl
 ·exact standIn31
 ·exact standIn9
 ·exact standIn4
theorem goes6:false=Rows.claimFacesUptoRow.goesBy Tryz.prog:=by
 have h:Tryz.prog.goes 9=false:=goes_false noGo 9
 have h2:Rows.claimFacesUptoRow.goesBy Tryz.prog=(Tryz.prog.funcNamed "inequality/inequalitylaw06.ClaimFaces").any Tryz.prog.goes:=by
  unfold OpenClaim.goesBy Program.goesAt Program.goesFrom
  rw[show Rows.claimFacesUptoRow.start= .entering from rfl,show Rows.claimFacesUptoRow.func= "inequality/inequalitylaw06.ClaimFaces" from rfl]
  simp only[Bool.or_false]
 rw[h2,named6,Option.any_some,h]
theorem card9:Rows.ClaimFacesUptoCardSaid:=
 Claim7.holds_tied_plain_at .later [] _ _ _ _ said6 (fun _ h=>by cases h) wfText6 (fun _ h=>by cases h) claimFacesUpto_row_tie rfl ⟨rfl,rfl⟩ mainIs6 rfl plain6 goes6
end Go.Proofs.YtbapfnpbamnmpaaGreatDoor
