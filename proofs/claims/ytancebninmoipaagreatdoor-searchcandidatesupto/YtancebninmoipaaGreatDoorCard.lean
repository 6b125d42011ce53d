/- A part of the proof that SearchCandidates answers true for every input of bulk at most 1048576: conditions: the row's own. -/
import Derived.Test.YtancebninmoipaaGreatDoorP32
import Derived.Test.YtancebninmoipaaGreatDoorP33
import Derived.Test.YtancebninmoipaaGreatDoorP34
import Derived.Test.YtancebninmoipaaGreatDoorP35
import Derived.Test.YtancebninmoipaaGreatDoorP45
import Derived.Test.YtancebninmoipaaGreatDoorP46
import Derived.Test.YtancebninmoipaaGreatDoorP37
import Derived.Test.YtancebninmoipaaGreatDoorP44
import Derived.Test.YtancebninmoipaaGreatDoorP30
import Derived.Test.YtancebninmoipaaGreatDoorP31
import Derived.Test.YtancebninmoipaaGreatDoorP26
namespace Go.Proofs.YtancebninmoipaaGreatDoor
section
open Go
theorem and_t{a b:Bool}(ha:a=true)(hb:b=true):(a&&b)=true:=by rw[ha,hb];rfl
theorem eq_t{b:Bool}(h:b=true):(true==b)=true:=by rw[h];rfl
theorem laidOut:laidOutB Tryz.prog=true:=and_t (and_t laid1 laid2) laid3
theorem cl9:(Rows.searchCandidatesUptoRow.inPlace==Tryz.prog.inPlace 3)=true:=inPlace3
theorem cl10:(Rows.searchCandidatesUptoRow.unfollowed==Tryz.prog.unfollowed 3)=true:=eq_t unfollowed3
theorem cl11:(Rows.searchCandidatesUptoRow.recurses==Tryz.prog.recurses 3)=true:=eq_t recurses3
theorem cl12:(Rows.searchCandidatesUptoRow.named==Tryz.prog.varsNamed 3)=true:=varsNamed3
set_option maxRecDepth 100000 in
theorem closed6:joinedFacts Tryz.prog 3 Tryz.f3 (Rows.OpenSpec.upto Rows.searchCandidatesSpec).bare Rows.searchCandidatesUptoRow=true:=by
 unfold joinedFacts
 exact(and_t (and_t (and_t (and_t (and_t (and_t (and_t (and_t (and_t (and_t (and_t (and_t (and_t (and_t (and_t (and_t (and_t (and_t (and_t (and_t (and_t (and_t (and_t (and_t (and_t (and_t (and_t (and_t (and_t (and_t (and_t cl0 laidOut) cl2) cl3) cl4) cl5) cl6) cl7) cl8) cl9) cl10) cl11) cl12) cl13) cl14) cl15) cl16) cl17) cl18) cl19) cl20) cl21) cl22) cl23) cl24) cl25) cl26) cl27) cl28) cl29) cl30) cl31)
end
section
open Go.ChangeShapes Go.WideShapes Go.ChangeAt Go.RowKit
set_option maxRecDepth 100000 in
theorem lifted6(os:Os)(started:os.Started)(H:Type)(enc:TypeId×Value→H)(F:Stop.Interp):
 ReturnsInHanded {} Tryz.checked os 3 .any ((Rows.OpenSpec.upto Rows.searchCandidatesSpec).preRow enc Tryz.prog Tryz.f3 Rows.searchCandidatesUptoRow.domain false Rows.searchCandidatesUptoRow.laid) (((Rows.OpenSpec.upto Rows.searchCandidatesSpec).at F).post enc Tryz.prog Tryz.f3 false true false false):=by
 refine returnsInHanded_of_row (C:=Tryz.checked) (s:=(Rows.OpenSpec.upto Rows.searchCandidatesSpec)) own6 started noInit6 Tryz.func3 (witness6 os enc) ?_
 intro W base args ds gs before hval hW _ hcond _ hL hs _
 exact contract3 laidOut H enc W base args ds gs before hval hW (hcond _ rfl) hL hs
theorem said6:Rows.SearchCandidatesUptoSaid:=
 OpenClaim.holds_of_cond 3 Tryz.f3 rfl rfl rfl rfl rfl rfl rfl ⟨rfl,rfl,rfl,rfl,rfl⟩ rfl rfl rfl rfl rfl named6 Tryz.func3 closed6 inst6 wrap6
  (fun os started H enc _ F=>by rw[OpenClaim.pre_eq_preRow];exact lifted6 os started H enc F)
theorem plain6(f:FuncId)(fn:Func)(hf:Tryz.pinned.checked.prog.funcNamed "inequality/inequalitylaw08.SearchCandidates" =some f)(hfn:Tryz.pinned.checked.prog.funcs[f]? =some fn):
 true=Tryz.pinned.checked.prog.looks []∧∀(j:Nat) t,fn.params[j]? =some t→Tryz.pinned.checked.prog.wantsStandIn t=false:=by
 obtain rfl:f=3:=Option.some.inj (named6.symm.trans hf) |>.symm
 obtain rfl:fn=Tryz.f3:=(Option.some.inj (Tryz.func3.symm.trans hfn)).symm
 refine⟨looks6,fun j t ht=> ?_⟩
 rw[Tryz.params3] at ht
 obtain rfl:t=31:=by simpa using Array.mem_of_getElem? ht
 exact standIn31
theorem goes6:false=Rows.searchCandidatesUptoRow.goesBy Tryz.prog:=by
 have h:Tryz.prog.goes 3=false:=Clo.goes_false noGo 3
 have h2:Rows.searchCandidatesUptoRow.goesBy Tryz.prog=(Tryz.prog.funcNamed "inequality/inequalitylaw08.SearchCandidates").any Tryz.prog.goes:=by
  unfold OpenClaim.goesBy Program.goesAt Program.goesFrom
  rw[show Rows.searchCandidatesUptoRow.start= .entering from rfl,show Rows.searchCandidatesUptoRow.func= "inequality/inequalitylaw08.SearchCandidates" from rfl]
  simp only[Bool.or_false]
 rw[h2,named6,Option.any_some,h]
theorem card3:Rows.SearchCandidatesUptoCardSaid:=
 Claim7.holds_tied_plain_at .later [] _ _ _ _ said6 (fun _ h=>by cases h) wfText6 (fun _ h=>by cases h) row_tie rfl ⟨rfl,rfl⟩ mainIs6 rfl plain6 goes6
end
end Go.Proofs.YtancebninmoipaaGreatDoor
