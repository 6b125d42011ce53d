/-
  DERIVED. GIVEN WITH THE SEED: THE CARDS: each row of YtancebninmoipaaGreatDoorRows.lean that lists a variable, with what it lists TIED to the program's text (the seventh form; the later family's looks); each row that meets fmt, with fmt's text TOLD by the authors' own Lean function (tested against real Go, not proved from fmt's source: count such statements apart). THE CARD IS WHAT COUNTS. Prove the row's statement (the work); the ties are given (YtancebninmoipaaGreatDoorTie.lean); close each card by the builder's one call (the guide's Derived/Test/ToyasCard.lean, 'card_holds'). Laid BY PROGRAM, IN A SANDBOX (cutbox-door.mjs). By AI agents, Wed Nov 11 2026. No macro, syntax, notation, axiom, sorry.
-/
import Derived.Test.YtancebninmoipaaGreatDoorRows
import GoSem.ClaimSeven
namespace Go.Proofs.YtancebninmoipaaGreatDoor
namespace Rows

/-- THE TIED CARD OF 'inequalitylaw08.SearchCandidates'. -/
def searchCandidatesCard : Claim7 := { stood := { row := searchCandidatesRow, standIns := [], harness := (true, "52022c895341eed1970b0b523671b2e0f8197a7650c79aff74898adb7afc18fa"), looks := true }, kinds := [], alts := [], laidByText := true, laidKinds := [.data, .data, .data], laidTests := true, laidLooks := .later }
def SearchCandidatesCardSaid : Prop := Claim7.holds Tryz.pinned (.plain (OpenSpec.ofChange searchCandidatesSpec)) searchCandidatesCard

/-- THE SECOND FORM's CARD OF 'inequalitylaw08.SearchCandidates'. -/
def searchCandidatesUptoCard : Claim7 := { stood := { row := searchCandidatesUptoRow, standIns := [], harness := (true, "52022c895341eed1970b0b523671b2e0f8197a7650c79aff74898adb7afc18fa"), looks := true }, kinds := [], alts := [], laidByText := true, laidKinds := [.data, .data, .data], laidTests := true, laidLooks := .later }
def SearchCandidatesUptoCardSaid : Prop := Claim7.holds Tryz.pinned (.plain (OpenSpec.upto searchCandidatesSpec)) searchCandidatesUptoCard
end Rows
end Go.Proofs.YtancebninmoipaaGreatDoor
