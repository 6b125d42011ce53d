/- A part of the proof that ClaimFaces answers true for every input of bulk at most 1048576: conditions: the row's own. -/
import Derived.Test.YtbapfnpbamnmpaaGreatDoorCards
import Derived.ProofKit
import Derived.LaidMore
import Derived.Lay
import Derived.JoinedCond
import Derived.Deep.DeepHandedRow
namespace Go.Proofs.YtbapfnpbamnmpaaGreatDoor
open Go.ChangeShapes Go.WideShapes Go.ChangeAt Go.RowKit
def zeroClaim:Value:=.agg #[.int .i64 0,.int .i64 0,.bool false,.slice none 0 0,.slice none 0 0,.string ⟨#[]⟩,.slice none 0 0,.bool false,.slice none 0 0,.slice none 0 0]
def zeroArgs6:Array Value:=#[zeroClaim,.string ⟨#[]⟩,.bool false]
noncomputable def witW(os:Os):World:=World.laidAll Tryz.prog os Rows.claimFacesUptoRow.laid
noncomputable def witC(os:Os):World:=(witW os).forCall (fun _ _=>0) ⟨#[],zeroArgs6,[]⟩
theorem wShape(os:Os):(witC os).Shaped Tryz.prog:=World.shaped_of_ZipB (by kernel_rfl) (by kernel_rfl)
theorem wOk(os:Os):Input.okWideB Tryz.prog (witC os) 9 ⟨#[],zeroArgs6,[]⟩=true:=by kernel_rfl
theorem wLaid(os:Os):laidMetH Tryz.prog Rows.claimFacesUptoRow.laid (witC os).memory:=by
 rw[MakeChecks.laidMetH_plain _ _ _ (by kernel_rfl)]
 exact laidMet_laidAll _ (by kernel_rfl) (by kernel_rfl)
theorem wReads(os:Os){H:Type}(enc:TypeId×Value→H):∃places,DataW.whole enc Tryz.prog (witC os).memory Tryz.f9.params.toList (Rows.OpenSpec.upto Rows.claimFacesSpec).vars false zeroArgs6.toList 8=
 some ([.agg [.agg [.lit (.int .i64 0),.lit (.int .i64 0),.agg [.lit (.bool false),.nil,.nil],.lit (.string []),.nil],.lit (.bool false),.nil,.nil],.lit (.string []),.lit (.bool false)],[],places):=
 ⟨[],by kernel_rfl⟩
theorem wSized(os:Os){H:Type}(enc:TypeId×Value→H):(Rows.OpenSpec.upto Rows.claimFacesSpec).bare.sizedB enc Tryz.prog Tryz.f9 false (witC os).memory zeroArgs6 8=true:=by kernel_rfl
theorem wPre(os:Os){H:Type}(enc:TypeId×Value→H):(Rows.OpenSpec.upto Rows.claimFacesSpec).preRow enc Tryz.prog Tryz.f9 Rows.claimFacesUptoRow.domain false Rows.claimFacesUptoRow.laid (witC os).memory zeroArgs6:=by
 obtain⟨places,hx⟩:=wReads os enc
 exact OpenSpec.preRow_of_cond 8 hx (by kernel_rfl) (fun k hk=>by cases hk;kernel_rfl) (wSized os enc) (wLaid os)
theorem witness6(os:Os){H:Type}(enc:TypeId×Value→H):∃(w:World)(tape:Tape)(i:Input),w.os=os∧(w.forCall tape i).Shaped Tryz.checked.prog∧i.vars=[]∧Input.okWide Tryz.checked.prog (w.forCall tape i) .any w.heap.size 9 i∧
 (Rows.OpenSpec.upto Rows.claimFacesSpec).preRow enc Tryz.checked.prog Tryz.f9 Rows.claimFacesUptoRow.domain false Rows.claimFacesUptoRow.laid (w.forCall tape i).memory i.args∧({}:Assume).holds Tryz.checked.prog (lone (Frame.enter Tryz.checked.prog 9 i.args .normal) [] (w.forCall tape i)):=
 ⟨witW os,fun _ _=>0,⟨#[],zeroArgs6,[]⟩,World.laidAll_os _ _ _,wShape os,(Input.okWide_of_okWideB (base:=0) (wOk os)).1,(Input.okWide_of_okWideB (wOk os)).2,wPre os enc,by
   simp only[Assume.holds]
   exact⟨by simp,by simp,fun _=>Modest.zero,by simp,by simp⟩⟩
theorem noInit6:Tryz.prog.inits.idxOf? 9=none:=by kernel_rfl
theorem own6:ownKnob Tryz.prog.godebug=none:=by kernel_rfl
end Go.Proofs.YtbapfnpbamnmpaaGreatDoor
