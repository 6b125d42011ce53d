/-
  DERIVED. GIVEN WITH THE SEED: THE CARDS: each row of YthdgoelpabcgpaaGreatDoorRows.lean that lists a variable, with what it lists TIED to the program's text (the seventh form; the later family's looks); each row that meets fmt, with fmt's text TOLD by the authors' own Lean function (tested against real Go, not proved from fmt's source: count such statements apart). THE CARD IS WHAT COUNTS. Prove the row's statement (the work); the ties are given (YthdgoelpabcgpaaGreatDoorTie.lean); close each card by the builder's one call (the guide's Derived/Test/ToyasCard.lean, 'card_holds'). Laid BY PROGRAM, IN A SANDBOX (cutbox-door.mjs). By AI agents, Wed Nov 11 2026. No macro, syntax, notation, axiom, sorry.
-/
import Derived.Test.YthdgoelpabcgpaaGreatDoorRows
import GoSem.ClaimSeven
namespace Go.Proofs.YthdgoelpabcgpaaGreatDoor
namespace Rows

/-- THE TIED CARD OF 'inequalitylaw08.SearchValid'. -/
def searchValidCard : Claim7 := { stood := { row := searchValidRow, standIns := [], harness := (true, "1453241411753c4ba35fcbe951495cf4dbb104adf8551fb7a0355b6575cb5086"), looks := true }, kinds := [], alts := [], laidByText := true, laidKinds := [.data, .data, .data], laidTests := true, laidLooks := .later }
def SearchValidCardSaid : Prop := Claim7.holds Tryz.pinned (.plain (OpenSpec.ofChange searchValidSpec)) searchValidCard

/-- THE TIED CARD OF 'inequalitylaw08.SearchNil'. -/
def searchNilCard : Claim7 := { stood := { row := searchNilRow, standIns := [], harness := (true, "1453241411753c4ba35fcbe951495cf4dbb104adf8551fb7a0355b6575cb5086"), looks := true }, kinds := [], alts := [], laidByText := true, laidKinds := [.data, .data, .data], laidTests := true, laidLooks := .later }
def SearchNilCardSaid : Prop := Claim7.holds Tryz.pinned (.plain (OpenSpec.ofChange searchNilSpec)) searchNilCard

/-- THE SECOND FORM's CARD OF 'inequalitylaw08.SearchValid'. -/
def searchValidUptoCard : Claim7 := { stood := { row := searchValidUptoRow, standIns := [], harness := (true, "1453241411753c4ba35fcbe951495cf4dbb104adf8551fb7a0355b6575cb5086"), looks := true }, kinds := [], alts := [], laidByText := true, laidKinds := [.data, .data, .data], laidTests := true, laidLooks := .later }
def SearchValidUptoCardSaid : Prop := Claim7.holds Tryz.pinned (.plain (OpenSpec.upto searchValidSpec)) searchValidUptoCard

/-- THE SECOND FORM's CARD OF 'inequalitylaw08.SearchNil'. -/
def searchNilUptoCard : Claim7 := { stood := { row := searchNilUptoRow, standIns := [], harness := (true, "1453241411753c4ba35fcbe951495cf4dbb104adf8551fb7a0355b6575cb5086"), looks := true }, kinds := [], alts := [], laidByText := true, laidKinds := [.data, .data, .data], laidTests := true, laidLooks := .later }
def SearchNilUptoCardSaid : Prop := Claim7.holds Tryz.pinned (.plain (OpenSpec.upto searchNilSpec)) searchNilUptoCard
end Rows
end Go.Proofs.YthdgoelpabcgpaaGreatDoor
