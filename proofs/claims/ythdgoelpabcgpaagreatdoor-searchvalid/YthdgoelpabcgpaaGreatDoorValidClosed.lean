/- A part of the proof that SearchValid answers true for every input: conditions: the row's own. -/
import Derived.Test.YthdgoelpabcgpaaGreatDoorVClSmall
import Derived.Test.YthdgoelpabcgpaaGreatDoorVCl2
import Derived.Test.YthdgoelpabcgpaaGreatDoorVCl22
import Derived.Test.YthdgoelpabcgpaaGreatDoorVCl24
import Derived.Test.YthdgoelpabcgpaaGreatDoorVCl25
import Derived.Test.YthdgoelpabcgpaaGreatDoorValidClo5
import Derived.Test.YthdgoelpabcgpaaGreatDoorValidClo6
import Derived.Test.YthdgoelpabcgpaaGreatDoorLaidO1
import Derived.Test.YthdgoelpabcgpaaGreatDoorLaidO2
section
namespace Go.Proofs.YthdgoelpabcgpaaGreatDoor.validLaw
open Go
theorem and_t {a b : Bool} (ha : a = true) (hb : b = true) : (a && b) = true := by rw [ha, hb]; rfl
theorem eq_t {b : Bool} (h : b = true) : (true == b) = true := by rw [h]; rfl
theorem cl1 : laidOutB Tryz.prog = true := and_t (and_t laid1 laid2) laid3
theorem cl9 : (Rows.searchValidRow.inPlace == Tryz.prog.inPlace 3) = true := inPlace3
theorem cl10 : (Rows.searchValidRow.unfollowed == Tryz.prog.unfollowed 3) = true := eq_t unfollowed3
theorem cl11 : (Rows.searchValidRow.recurses == Tryz.prog.recurses 3) = true := eq_t recurses3
theorem cl12 : (Rows.searchValidRow.named == Tryz.prog.varsNamed 3) = true := varsNamed3
set_option maxRecDepth 100000 in
theorem closed : joinedFacts Tryz.prog 3 Tryz.f3 (OpenSpec.ofChange Rows.searchValidSpec).bare Rows.searchValidRow = true := by
  unfold joinedFacts
  exact (and_t (and_t (and_t (and_t (and_t (and_t (and_t (and_t (and_t (and_t (and_t (and_t (and_t (and_t (and_t (and_t (and_t (and_t (and_t (and_t (and_t (and_t (and_t (and_t (and_t (and_t (and_t (and_t (and_t (and_t (and_t cl0 cl1) cl2) cl3) cl4) cl5) cl6) cl7) cl8) cl9) cl10) cl11) cl12) cl13) cl14) cl15) cl16) cl17) cl18) cl19) cl20) cl21) cl22) cl23) cl24) cl25) cl26) cl27) cl28) cl29) cl30) cl31)
end Go.Proofs.YthdgoelpabcgpaaGreatDoor.validLaw
end
