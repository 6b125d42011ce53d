/- A part of the proof that SearchNil answers true for every input: conditions: the row's own. -/
import Derived.Test.YthdgoelpabcgpaaGreatDoorClSmall
import Derived.Test.YthdgoelpabcgpaaGreatDoorCl2
import Derived.Test.YthdgoelpabcgpaaGreatDoorCl22
import Derived.Test.YthdgoelpabcgpaaGreatDoorCl24
import Derived.Test.YthdgoelpabcgpaaGreatDoorCl25
import Derived.Test.YthdgoelpabcgpaaGreatDoorClo5
import Derived.Test.YthdgoelpabcgpaaGreatDoorClo6
import Derived.Test.YthdgoelpabcgpaaGreatDoorLaidO1
import Derived.Test.YthdgoelpabcgpaaGreatDoorLaidO2
section
namespace Go.Proofs.YthdgoelpabcgpaaGreatDoor.nilLaw
open Go
theorem and_t {a b : Bool} (ha : a = true) (hb : b = true) : (a && b) = true := by rw [ha, hb]; rfl
theorem eq_t {b : Bool} (h : b = true) : (true == b) = true := by rw [h]; rfl
theorem cl1 : laidOutB Tryz.prog = true := and_t (and_t laid1 laid2) laid3
theorem cl9 : (Rows.searchNilRow.inPlace == Tryz.prog.inPlace 4) = true := inPlace4
theorem cl10 : (Rows.searchNilRow.unfollowed == Tryz.prog.unfollowed 4) = true := eq_t unfollowed4
theorem cl11 : (Rows.searchNilRow.recurses == Tryz.prog.recurses 4) = true := eq_t recurses4
theorem cl12 : (Rows.searchNilRow.named == Tryz.prog.varsNamed 4) = true := varsNamed4
set_option maxRecDepth 100000 in
theorem closed : joinedFacts Tryz.prog 4 Tryz.f4 (OpenSpec.ofChange Rows.searchNilSpec).bare Rows.searchNilRow = true := by
  unfold joinedFacts
  exact (and_t (and_t (and_t (and_t (and_t (and_t (and_t (and_t (and_t (and_t (and_t (and_t (and_t (and_t (and_t (and_t (and_t (and_t (and_t (and_t (and_t (and_t (and_t (and_t (and_t (and_t (and_t (and_t (and_t (and_t (and_t cl0 cl1) cl2) cl3) cl4) cl5) cl6) cl7) cl8) cl9) cl10) cl11) cl12) cl13) cl14) cl15) cl16) cl17) cl18) cl19) cl20) cl21) cl22) cl23) cl24) cl25) cl26) cl27) cl28) cl29) cl30) cl31)
end Go.Proofs.YthdgoelpabcgpaaGreatDoor.nilLaw
end
