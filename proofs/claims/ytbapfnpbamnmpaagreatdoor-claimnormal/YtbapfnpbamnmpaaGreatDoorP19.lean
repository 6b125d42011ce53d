/- A part of the proof that the text which Print makes of a parsed text is a normal form -/
import Derived.Test.YtbapfnpbamnmpaaGreatDoorP00
import Derived.Test.YtbapfnpbamnmpaaGreatDoorCards
import Derived.ProofKit
import Derived.LaidMore
import Derived.Lay
import Derived.JoinedCond
import Derived.Deep.DeepHandedRow
set_option maxHeartbeats 8000000
set_option maxRecDepth 100000
namespace Go.Proofs.YtbapfnpbamnmpaaGreatDoor
open Go Go.RowKit Go.Dig Go.Deep Go.Eng Go.Proofs.Tryz
variable{H:Type}
section
open Go.ChangeShapes Go.WideShapes Go.ChangeAt Go.RowKit
def nh:Array Value:=#[.string ⟨#[]⟩]
noncomputable def af2(os:Os):World:=World.laidAll prog os Rows.claimNormalRow.laid
noncomputable def Rw(os:Os):World:=(af2 os).forCall (λ _ _=>0) ⟨#[],nh,[]⟩
theorem ab7(os:Os):(Rw os).Shaped prog:=World.shaped_of_ZipB (by kernel_rfl) (by kernel_rfl)
theorem wOk(os:Os):Input.okWideB prog (Rw os) 5 ⟨#[],nh,[]⟩=true:=by kernel_rfl
theorem af3(os:Os):laidMetH prog Rows.claimNormalRow.laid (Rw os).memory:=by
 rw[MakeChecks.laidMetH_plain _ _ _ (by kernel_rfl)]
 exact laidMet_laidAll _ (by kernel_rfl) (by kernel_rfl)
theorem ab8(os:Os)(enc:TypeId×Value->H):∃a,DataW.whole enc prog (Rw os).memory Tryz.f5.params.toList (OpenSpec.ofChange Rows.claimNormalSpec).vars false nh.toList 8=
 some ([.lit (.string [])],[],a):=
 ⟨[],by kernel_rfl⟩
theorem ab9(os:Os)(enc:TypeId×Value->H):(OpenSpec.ofChange Rows.claimNormalSpec).bare.sizedB enc prog Tryz.f5 false (Rw os).memory nh 8=true:=by kernel_rfl
theorem alp(os:Os)(enc:TypeId×Value->H):(OpenSpec.ofChange Rows.claimNormalSpec).preRow enc prog Tryz.f5 Rows.claimNormalRow.domain false Rows.claimNormalRow.laid (Rw os).memory nh:=by
 obtain⟨a,hx⟩:=ab8 os enc;exact OpenSpec.preRow_of_cond 8 hx (by kernel_rfl) (λ k b=>by cases b) (ab9 os enc) (af3 os)
theorem witness6(os:Os)(enc:TypeId×Value->H):∃(w:World)(tape:Tape)(i:Input),w.os=os/\(w.forCall tape i).Shaped Tryz.checked.prog/\i.vars=[]/\Input.okWide Tryz.checked.prog (w.forCall tape i) .any w.heap.size 5 i/\
 (OpenSpec.ofChange Rows.claimNormalSpec).preRow enc Tryz.checked.prog Tryz.f5 Rows.claimNormalRow.domain false Rows.claimNormalRow.laid (w.forCall tape i).memory i.args/\({}:Assume).holds Tryz.checked.prog (lone (Frame.enter Tryz.checked.prog 5 i.args .normal) [] (w.forCall tape i)):=
 ⟨af2 os,λ _ _=>0,⟨#[],nh,[]⟩,World.laidAll_os _ _ _,ab7 os,(Input.okWide_of_okWideB (base:=0) (wOk os)).1,(Input.okWide_of_okWideB (wOk os)).2,alp os enc,by
   simp only[Assume.holds]
   exact⟨by simp,by simp,λ _=>Modest.zero,by simp,by simp⟩⟩
theorem Yq:prog.inits.idxOf? 5=none:=by kernel_rfl
theorem alq:ownKnob prog.godebug=none:=by kernel_rfl
end
end Go.Proofs.YtbapfnpbamnmpaaGreatDoor
