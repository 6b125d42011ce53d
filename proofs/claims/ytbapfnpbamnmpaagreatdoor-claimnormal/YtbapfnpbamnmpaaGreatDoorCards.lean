/-
  DERIVED. GIVEN WITH THE SEED: THE CARDS: each row of YtbapfnpbamnmpaaGreatDoorRows.lean that lists a variable, with what it lists TIED to the program's text (the seventh form; the later family's looks); each row that meets fmt, with fmt's text TOLD by the authors' own Lean function (tested against real Go, not proved from fmt's source: count such statements apart). THE CARD IS WHAT COUNTS. Prove the row's statement (the work); the ties are given (YtbapfnpbamnmpaaGreatDoorTie.lean); close each card by the builder's one call (the guide's Derived/Test/ToyasCard.lean, 'card_holds'). Laid BY PROGRAM, IN A SANDBOX (cutbox-door.mjs). By AI agents, Wed Nov 11 2026. No macro, syntax, notation, axiom, sorry.
-/
import Derived.Test.YtbapfnpbamnmpaaGreatDoorRows
import GoSem.ClaimSeven
namespace Go.Proofs.YtbapfnpbamnmpaaGreatDoor
namespace Rows

/-- THE TIED CARD OF 'inequalitylaw06.ClaimParses'. -/
def claimParsesCard : Claim7 := { stood := { row := claimParsesRow, standIns := [], harness := (true, "72e93e87ee8499ba8651b3aedd998e33a401a45855a3730b7cc5859e7edf3b75"), looks := true }, kinds := [], alts := [], laidByText := true, laidKinds := [.pinned, .data, .data, .sentinel, .sentinel, .data, .data], laidTests := true, laidLooks := .later }
def ClaimParsesCardSaid : Prop := Claim7.holds Tryz.pinned (.plain (OpenSpec.ofChange claimParsesSpec)) claimParsesCard

/-- THE TIED CARD OF 'inequalitylaw06.ClaimPrints'. -/
def claimPrintsCard : Claim7 := { stood := { row := claimPrintsRow, standIns := [], harness := (true, "72e93e87ee8499ba8651b3aedd998e33a401a45855a3730b7cc5859e7edf3b75"), looks := true }, kinds := [], alts := [], laidByText := true, laidKinds := [.data, .data, .data, .pinned, .data, .sentinel, .sentinel], laidTests := true, laidLooks := .later }
def ClaimPrintsCardSaid : Prop := Claim7.holds Tryz.pinned (.plain (OpenSpec.ofChange claimPrintsSpec)) claimPrintsCard

/-- THE TIED CARD OF 'inequalitylaw06.ClaimNormal'. -/
def claimNormalCard : Claim7 := { stood := { row := claimNormalRow, standIns := [], harness := (true, "72e93e87ee8499ba8651b3aedd998e33a401a45855a3730b7cc5859e7edf3b75"), looks := true }, kinds := [], alts := [], laidByText := true, laidKinds := [.pinned, .data, .data, .sentinel, .sentinel, .data, .data], laidTests := true, laidLooks := .later }
def ClaimNormalCardSaid : Prop := Claim7.holds Tryz.pinned (.plain (OpenSpec.ofChange claimNormalSpec)) claimNormalCard

/-- THE TIED CARD OF 'inequalitylaw06.ClaimFree'. -/
def claimFreeCard : Claim7 := { stood := { row := claimFreeRow, standIns := [], harness := (true, "72e93e87ee8499ba8651b3aedd998e33a401a45855a3730b7cc5859e7edf3b75"), looks := true }, kinds := [], alts := [], laidByText := true, laidKinds := [.data, .pinned, .data, .sentinel, .sentinel, .data, .data], laidTests := true, laidLooks := .later }
def ClaimFreeCardSaid : Prop := Claim7.holds Tryz.pinned (.plain (OpenSpec.ofChange claimFreeSpec)) claimFreeCard

/-- THE TIED CARD OF 'inequalitylaw06.ClaimGoals'. -/
def claimGoalsCard : Claim7 := { stood := { row := claimGoalsRow, standIns := [], harness := (true, "72e93e87ee8499ba8651b3aedd998e33a401a45855a3730b7cc5859e7edf3b75"), looks := true }, kinds := [], alts := [], laidByText := true, laidKinds := [.data, .pinned, .data, .sentinel, .sentinel, .data, .data], laidTests := true, laidLooks := .later }
def ClaimGoalsCardSaid : Prop := Claim7.holds Tryz.pinned (.plain (OpenSpec.ofChange claimGoalsSpec)) claimGoalsCard

/-- THE TIED CARD OF 'inequalitylaw06.ClaimValid'. -/
def claimValidCard : Claim7 := { stood := { row := claimValidRow, standIns := [], harness := (true, "72e93e87ee8499ba8651b3aedd998e33a401a45855a3730b7cc5859e7edf3b75"), looks := true }, kinds := [], alts := [], laidByText := true, laidKinds := [.data, .pinned, .data, .sentinel, .sentinel, .data, .data], laidTests := true, laidLooks := .later }
def ClaimValidCardSaid : Prop := Claim7.holds Tryz.pinned (.plain (OpenSpec.ofChange claimValidSpec)) claimValidCard

/-- THE TIED CARD OF 'inequalitylaw06.ClaimFaces'. -/
def claimFacesCard : Claim7 := { stood := { row := claimFacesRow, standIns := [], harness := (true, "72e93e87ee8499ba8651b3aedd998e33a401a45855a3730b7cc5859e7edf3b75"), looks := true }, kinds := [], alts := [], laidByText := true, laidKinds := [.data, .pinned, .data, .sentinel, .sentinel, .data, .data], laidTests := true, laidLooks := .later }
def ClaimFacesCardSaid : Prop := Claim7.holds Tryz.pinned (.plain (OpenSpec.ofChange claimFacesSpec)) claimFacesCard

/-- THE TIED CARD OF 'inequalitylaw06.ClaimBranches'. -/
def claimBranchesCard : Claim7 := { stood := { row := claimBranchesRow, standIns := [], harness := (true, "72e93e87ee8499ba8651b3aedd998e33a401a45855a3730b7cc5859e7edf3b75"), looks := true }, kinds := [], alts := [], laidByText := true, laidKinds := [.data, .pinned, .data, .sentinel, .sentinel, .data, .data], laidTests := true, laidLooks := .later }
def ClaimBranchesCardSaid : Prop := Claim7.holds Tryz.pinned (.plain (OpenSpec.ofChange claimBranchesSpec)) claimBranchesCard

/-- THE SECOND FORM's CARD OF 'inequalitylaw06.ClaimParses'. -/
def claimParsesUptoCard : Claim7 := { stood := { row := claimParsesUptoRow, standIns := [], harness := (true, "72e93e87ee8499ba8651b3aedd998e33a401a45855a3730b7cc5859e7edf3b75"), looks := true }, kinds := [], alts := [], laidByText := true, laidKinds := [.pinned, .data, .data, .sentinel, .sentinel, .data, .data], laidTests := true, laidLooks := .later }
def ClaimParsesUptoCardSaid : Prop := Claim7.holds Tryz.pinned (.plain (OpenSpec.upto claimParsesSpec)) claimParsesUptoCard

/-- THE SECOND FORM's CARD OF 'inequalitylaw06.ClaimPrints'. -/
def claimPrintsUptoCard : Claim7 := { stood := { row := claimPrintsUptoRow, standIns := [], harness := (true, "72e93e87ee8499ba8651b3aedd998e33a401a45855a3730b7cc5859e7edf3b75"), looks := true }, kinds := [], alts := [], laidByText := true, laidKinds := [.data, .data, .data, .pinned, .data, .sentinel, .sentinel], laidTests := true, laidLooks := .later }
def ClaimPrintsUptoCardSaid : Prop := Claim7.holds Tryz.pinned (.plain (OpenSpec.upto claimPrintsSpec)) claimPrintsUptoCard

/-- THE SECOND FORM's CARD OF 'inequalitylaw06.ClaimNormal'. -/
def claimNormalUptoCard : Claim7 := { stood := { row := claimNormalUptoRow, standIns := [], harness := (true, "72e93e87ee8499ba8651b3aedd998e33a401a45855a3730b7cc5859e7edf3b75"), looks := true }, kinds := [], alts := [], laidByText := true, laidKinds := [.pinned, .data, .data, .sentinel, .sentinel, .data, .data], laidTests := true, laidLooks := .later }
def ClaimNormalUptoCardSaid : Prop := Claim7.holds Tryz.pinned (.plain (OpenSpec.upto claimNormalSpec)) claimNormalUptoCard

/-- THE SECOND FORM's CARD OF 'inequalitylaw06.ClaimFree'. -/
def claimFreeUptoCard : Claim7 := { stood := { row := claimFreeUptoRow, standIns := [], harness := (true, "72e93e87ee8499ba8651b3aedd998e33a401a45855a3730b7cc5859e7edf3b75"), looks := true }, kinds := [], alts := [], laidByText := true, laidKinds := [.data, .pinned, .data, .sentinel, .sentinel, .data, .data], laidTests := true, laidLooks := .later }
def ClaimFreeUptoCardSaid : Prop := Claim7.holds Tryz.pinned (.plain (OpenSpec.upto claimFreeSpec)) claimFreeUptoCard

/-- THE SECOND FORM's CARD OF 'inequalitylaw06.ClaimGoals'. -/
def claimGoalsUptoCard : Claim7 := { stood := { row := claimGoalsUptoRow, standIns := [], harness := (true, "72e93e87ee8499ba8651b3aedd998e33a401a45855a3730b7cc5859e7edf3b75"), looks := true }, kinds := [], alts := [], laidByText := true, laidKinds := [.data, .pinned, .data, .sentinel, .sentinel, .data, .data], laidTests := true, laidLooks := .later }
def ClaimGoalsUptoCardSaid : Prop := Claim7.holds Tryz.pinned (.plain (OpenSpec.upto claimGoalsSpec)) claimGoalsUptoCard

/-- THE SECOND FORM's CARD OF 'inequalitylaw06.ClaimValid'. -/
def claimValidUptoCard : Claim7 := { stood := { row := claimValidUptoRow, standIns := [], harness := (true, "72e93e87ee8499ba8651b3aedd998e33a401a45855a3730b7cc5859e7edf3b75"), looks := true }, kinds := [], alts := [], laidByText := true, laidKinds := [.data, .pinned, .data, .sentinel, .sentinel, .data, .data], laidTests := true, laidLooks := .later }
def ClaimValidUptoCardSaid : Prop := Claim7.holds Tryz.pinned (.plain (OpenSpec.upto claimValidSpec)) claimValidUptoCard

/-- THE SECOND FORM's CARD OF 'inequalitylaw06.ClaimFaces'. -/
def claimFacesUptoCard : Claim7 := { stood := { row := claimFacesUptoRow, standIns := [], harness := (true, "72e93e87ee8499ba8651b3aedd998e33a401a45855a3730b7cc5859e7edf3b75"), looks := true }, kinds := [], alts := [], laidByText := true, laidKinds := [.data, .pinned, .data, .sentinel, .sentinel, .data, .data], laidTests := true, laidLooks := .later }
def ClaimFacesUptoCardSaid : Prop := Claim7.holds Tryz.pinned (.plain (OpenSpec.upto claimFacesSpec)) claimFacesUptoCard

/-- THE SECOND FORM's CARD OF 'inequalitylaw06.ClaimBranches'. -/
def claimBranchesUptoCard : Claim7 := { stood := { row := claimBranchesUptoRow, standIns := [], harness := (true, "72e93e87ee8499ba8651b3aedd998e33a401a45855a3730b7cc5859e7edf3b75"), looks := true }, kinds := [], alts := [], laidByText := true, laidKinds := [.data, .pinned, .data, .sentinel, .sentinel, .data, .data], laidTests := true, laidLooks := .later }
def ClaimBranchesUptoCardSaid : Prop := Claim7.holds Tryz.pinned (.plain (OpenSpec.upto claimBranchesSpec)) claimBranchesUptoCard
end Rows
end Go.Proofs.YtbapfnpbamnmpaaGreatDoor
