/- A part of the proof that SearchValid answers true for every input: conditions: the row's own. -/
import Derived.Test.YthdgoelpabcgpaaGreatDoorValidProof
import Derived.Test.YthdgoelpabcgpaaGreatDoorValidWit
import Derived.Test.YthdgoelpabcgpaaGreatDoorValidWit2
import Derived.ProofKit
import Derived.JoinedCond
import Derived.SevenTiedAt
section
namespace Go.Proofs.YthdgoelpabcgpaaGreatDoor.validLaw
open Go.ChangeShapes Go.WideShapes Go.ChangeAt Go.RowKit
theorem noInit : Tryz.prog.inits.idxOf? 3 = none := by kernel_rfl
theorem pre1 (os : Os) {H : Type} (enc : TypeId × Value → H) : (OpenSpec.ofChange Rows.searchValidSpec).preRow enc Tryz.prog Tryz.f3 Rows.searchValidRow.domain false Rows.searchValidRow.laid ((World.doorLaid Tryz.prog 400 os).forCall (fun _ _ => 0) ⟨#[], #[.agg #[.int .i64 0, .int .i64 0, .int .i64 0]], []⟩).memory #[.agg #[.int .i64 0, .int .i64 0, .int .i64 0]] := by
  obtain ⟨places, hx⟩ := reads os enc
  exact OpenSpec.preRow_of_cond 8 hx (by kernel_rfl) (fun k hk => by cases hk) (by kernel_rfl) (laid_met os)
set_option maxRecDepth 100000 in
theorem lifted (os : Os) (started : os.Started) (H : Type) (enc : TypeId × Value → H) (F : Stop.Interp) :
    ReturnsInHanded {} Tryz.checked os 3 .any ((OpenSpec.ofChange Rows.searchValidSpec).preRow enc Tryz.prog Tryz.f3 Rows.searchValidRow.domain false Rows.searchValidRow.laid) (((OpenSpec.ofChange Rows.searchValidSpec).at F).post enc Tryz.prog Tryz.f3 false true false false) := by
  refine returnsInHanded_of_row (C := Tryz.checked) (s := OpenSpec.ofChange Rows.searchValidSpec) nilLaw.own started noInit Tryz.func3
    (witness_row_at (enc := enc) (C := Tryz.checked) false (World.doorLaid Tryz.prog 400 os) #[.agg #[.int .i64 0, .int .i64 0, .int .i64 0]] rfl (wit1 os) (wit2 os) (wit3 os) (pre1 os enc)) ?_
  intro W base args ds gs before hval hW _ _ _ hL hs _
  exact contract H enc W base args ds gs before hval hW hL hs
end Go.Proofs.YthdgoelpabcgpaaGreatDoor.validLaw
end
