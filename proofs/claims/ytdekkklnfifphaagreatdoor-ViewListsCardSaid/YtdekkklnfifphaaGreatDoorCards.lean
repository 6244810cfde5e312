/-
  DERIVED. GIVEN WITH THE SEED: THE CARDS: each row of YtdekkklnfifphaaGreatDoorRows.lean that lists a variable, with what it lists TIED to the program's text (the seventh form; the later family's looks); each row that meets fmt, with fmt's text TOLD by the authors' own Lean function (tested against real Go, not proved from fmt's source: count such statements apart). THE CARD IS WHAT COUNTS. Prove the row's statement (the work); the ties are given (YtdekkklnfifphaaGreatDoorTie.lean); close each card by the builder's one call (the guide's Derived/Test/ToyasCard.lean, 'card_holds'). Laid BY PROGRAM, IN A SANDBOX (cutbox-door.mjs). By AI agents, Wed Nov 11 2026. No macro, syntax, notation, axiom, sorry.
-/
import Derived.Test.YtdekkklnfifphaaGreatDoorRows
import GoSem.ClaimSeven
namespace Go.Proofs.YtdekkklnfifphaaGreatDoor
namespace Rows

/-- THE TIED CARD OF 'furcatelaw12.ViewLists'. -/
def viewListsCard : Claim7 := { stood := { row := viewListsRow, standIns := [], harness := (true, "e33c9b052f794ad68bf8c04e649933c1ce85ec3c2c959645f396766c35b87abc"), looks := true }, kinds := [], alts := [], laidByText := true, laidKinds := [.data, .data, .data, .sentinel, .sentinel], laidTests := true, laidLooks := .later }
def ViewListsCardSaid : Prop := Claim7.holds Tryz.pinned (.plain (OpenSpec.ofChange viewListsSpec)) viewListsCard

/-- THE TIED CARD OF 'furcatelaw12.ViewNames'. -/
def viewNamesCard : Claim7 := { stood := { row := viewNamesRow, standIns := [], harness := (true, "e33c9b052f794ad68bf8c04e649933c1ce85ec3c2c959645f396766c35b87abc"), looks := true }, kinds := [], alts := [], laidByText := true, laidKinds := [.data, .data, .data, .sentinel, .sentinel], laidTests := true, laidLooks := .later }
def ViewNamesCardSaid : Prop := Claim7.holds Tryz.pinned (.plain (OpenSpec.ofChange viewNamesSpec)) viewNamesCard

/-- THE TIED CARD OF 'furcatelaw12.ViewAll'. -/
def viewAllCard : Claim7 := { stood := { row := viewAllRow, standIns := [], harness := (true, "e33c9b052f794ad68bf8c04e649933c1ce85ec3c2c959645f396766c35b87abc"), looks := true }, kinds := [], alts := [], laidByText := true, laidKinds := [.data, .data, .data, .sentinel, .sentinel], laidTests := true, laidLooks := .later }
def ViewAllCardSaid : Prop := Claim7.holds Tryz.pinned (.plain (OpenSpec.ofChange viewAllSpec)) viewAllCard

/-- THE TIED CARD OF 'furcatelaw12.ViewLines'. -/
def viewLinesCard : Claim7 := { stood := { row := viewLinesRow, standIns := [], harness := (true, "e33c9b052f794ad68bf8c04e649933c1ce85ec3c2c959645f396766c35b87abc"), looks := true }, kinds := [], alts := [], laidByText := true, laidKinds := [.data, .data, .data, .sentinel, .sentinel], laidTests := true, laidLooks := .later }
def ViewLinesCardSaid : Prop := Claim7.holds Tryz.pinned (.plain (OpenSpec.ofChange viewLinesSpec)) viewLinesCard

/-- THE TIED CARD OF 'furcatelaw07.SourceRuns'. -/
def sourceRunsCard : Claim7 := { stood := { row := sourceRunsRow, standIns := [], harness := (true, "e33c9b052f794ad68bf8c04e649933c1ce85ec3c2c959645f396766c35b87abc"), looks := true }, kinds := [], alts := [], laidByText := true, laidKinds := [.data, .data, .data, .sentinel, .sentinel], laidTests := true, laidLooks := .later }
def SourceRunsCardSaid : Prop := Claim7.holds Tryz.pinned (.plain (OpenSpec.ofChange sourceRunsSpec)) sourceRunsCard

/-- THE TIED CARD OF 'furcatelaw07.SourceParts'. -/
def sourcePartsCard : Claim7 := { stood := { row := sourcePartsRow, standIns := [], harness := (true, "e33c9b052f794ad68bf8c04e649933c1ce85ec3c2c959645f396766c35b87abc"), looks := true }, kinds := [], alts := [], laidByText := true, laidKinds := [.data, .data, .data, .sentinel, .sentinel], laidTests := true, laidLooks := .later }
def SourcePartsCardSaid : Prop := Claim7.holds Tryz.pinned (.plain (OpenSpec.ofChange sourcePartsSpec)) sourcePartsCard

/-- THE TIED CARD OF 'furcatelaw07.SourceGrows'. -/
def sourceGrowsCard : Claim7 := { stood := { row := sourceGrowsRow, standIns := [], harness := (true, "e33c9b052f794ad68bf8c04e649933c1ce85ec3c2c959645f396766c35b87abc"), looks := true }, kinds := [], alts := [], laidByText := true, laidKinds := [.data, .data, .data, .sentinel, .sentinel], laidTests := true, laidLooks := .later }
def SourceGrowsCardSaid : Prop := Claim7.holds Tryz.pinned (.plain (OpenSpec.ofChange sourceGrowsSpec)) sourceGrowsCard

/-- THE TIED CARD OF 'furcatelaw07.SourceWaits'. -/
def sourceWaitsCard : Claim7 := { stood := { row := sourceWaitsRow, standIns := [], harness := (true, "e33c9b052f794ad68bf8c04e649933c1ce85ec3c2c959645f396766c35b87abc"), looks := true }, kinds := [], alts := [], laidByText := true, laidKinds := [.data, .data, .data, .sentinel, .sentinel], laidTests := true, laidLooks := .later }
def SourceWaitsCardSaid : Prop := Claim7.holds Tryz.pinned (.plain (OpenSpec.ofChange sourceWaitsSpec)) sourceWaitsCard

/-- THE TIED CARD OF 'furcatelaw07.SourceCalls'. -/
def sourceCallsCard : Claim7 := { stood := { row := sourceCallsRow, standIns := [], harness := (true, "e33c9b052f794ad68bf8c04e649933c1ce85ec3c2c959645f396766c35b87abc"), looks := true }, kinds := [], alts := [], laidByText := true, laidKinds := [.data, .data, .data, .sentinel, .sentinel], laidTests := true, laidLooks := .later }
def SourceCallsCardSaid : Prop := Claim7.holds Tryz.pinned (.plain (OpenSpec.ofChange sourceCallsSpec)) sourceCallsCard

/-- THE TIED CARD OF 'furcatelaw07.SourceTypes'. -/
def sourceTypesCard : Claim7 := { stood := { row := sourceTypesRow, standIns := [], harness := (true, "e33c9b052f794ad68bf8c04e649933c1ce85ec3c2c959645f396766c35b87abc"), looks := true }, kinds := [], alts := [], laidByText := true, laidKinds := [.data, .data, .data, .sentinel, .sentinel], laidTests := true, laidLooks := .later }
def SourceTypesCardSaid : Prop := Claim7.holds Tryz.pinned (.plain (OpenSpec.ofChange sourceTypesSpec)) sourceTypesCard

/-- THE SECOND FORM's CARD OF 'furcatelaw12.ViewLists'. -/
def viewListsUptoCard : Claim7 := { stood := { row := viewListsUptoRow, standIns := [], harness := (true, "e33c9b052f794ad68bf8c04e649933c1ce85ec3c2c959645f396766c35b87abc"), looks := true }, kinds := [], alts := [], laidByText := true, laidKinds := [.data, .data, .data, .sentinel, .sentinel], laidTests := true, laidLooks := .later }
def ViewListsUptoCardSaid : Prop := Claim7.holds Tryz.pinned (.plain (OpenSpec.upto viewListsSpec)) viewListsUptoCard

/-- THE SECOND FORM's CARD OF 'furcatelaw12.ViewNames'. -/
def viewNamesUptoCard : Claim7 := { stood := { row := viewNamesUptoRow, standIns := [], harness := (true, "e33c9b052f794ad68bf8c04e649933c1ce85ec3c2c959645f396766c35b87abc"), looks := true }, kinds := [], alts := [], laidByText := true, laidKinds := [.data, .data, .data, .sentinel, .sentinel], laidTests := true, laidLooks := .later }
def ViewNamesUptoCardSaid : Prop := Claim7.holds Tryz.pinned (.plain (OpenSpec.upto viewNamesSpec)) viewNamesUptoCard

/-- THE SECOND FORM's CARD OF 'furcatelaw12.ViewAll'. -/
def viewAllUptoCard : Claim7 := { stood := { row := viewAllUptoRow, standIns := [], harness := (true, "e33c9b052f794ad68bf8c04e649933c1ce85ec3c2c959645f396766c35b87abc"), looks := true }, kinds := [], alts := [], laidByText := true, laidKinds := [.data, .data, .data, .sentinel, .sentinel], laidTests := true, laidLooks := .later }
def ViewAllUptoCardSaid : Prop := Claim7.holds Tryz.pinned (.plain (OpenSpec.upto viewAllSpec)) viewAllUptoCard

/-- THE SECOND FORM's CARD OF 'furcatelaw12.ViewLines'. -/
def viewLinesUptoCard : Claim7 := { stood := { row := viewLinesUptoRow, standIns := [], harness := (true, "e33c9b052f794ad68bf8c04e649933c1ce85ec3c2c959645f396766c35b87abc"), looks := true }, kinds := [], alts := [], laidByText := true, laidKinds := [.data, .data, .data, .sentinel, .sentinel], laidTests := true, laidLooks := .later }
def ViewLinesUptoCardSaid : Prop := Claim7.holds Tryz.pinned (.plain (OpenSpec.upto viewLinesSpec)) viewLinesUptoCard

/-- THE SECOND FORM's CARD OF 'furcatelaw07.SourceRuns'. -/
def sourceRunsUptoCard : Claim7 := { stood := { row := sourceRunsUptoRow, standIns := [], harness := (true, "e33c9b052f794ad68bf8c04e649933c1ce85ec3c2c959645f396766c35b87abc"), looks := true }, kinds := [], alts := [], laidByText := true, laidKinds := [.data, .data, .data, .sentinel, .sentinel], laidTests := true, laidLooks := .later }
def SourceRunsUptoCardSaid : Prop := Claim7.holds Tryz.pinned (.plain (OpenSpec.upto sourceRunsSpec)) sourceRunsUptoCard

/-- THE SECOND FORM's CARD OF 'furcatelaw07.SourceParts'. -/
def sourcePartsUptoCard : Claim7 := { stood := { row := sourcePartsUptoRow, standIns := [], harness := (true, "e33c9b052f794ad68bf8c04e649933c1ce85ec3c2c959645f396766c35b87abc"), looks := true }, kinds := [], alts := [], laidByText := true, laidKinds := [.data, .data, .data, .sentinel, .sentinel], laidTests := true, laidLooks := .later }
def SourcePartsUptoCardSaid : Prop := Claim7.holds Tryz.pinned (.plain (OpenSpec.upto sourcePartsSpec)) sourcePartsUptoCard

/-- THE SECOND FORM's CARD OF 'furcatelaw07.SourceGrows'. -/
def sourceGrowsUptoCard : Claim7 := { stood := { row := sourceGrowsUptoRow, standIns := [], harness := (true, "e33c9b052f794ad68bf8c04e649933c1ce85ec3c2c959645f396766c35b87abc"), looks := true }, kinds := [], alts := [], laidByText := true, laidKinds := [.data, .data, .data, .sentinel, .sentinel], laidTests := true, laidLooks := .later }
def SourceGrowsUptoCardSaid : Prop := Claim7.holds Tryz.pinned (.plain (OpenSpec.upto sourceGrowsSpec)) sourceGrowsUptoCard

/-- THE SECOND FORM's CARD OF 'furcatelaw07.SourceWaits'. -/
def sourceWaitsUptoCard : Claim7 := { stood := { row := sourceWaitsUptoRow, standIns := [], harness := (true, "e33c9b052f794ad68bf8c04e649933c1ce85ec3c2c959645f396766c35b87abc"), looks := true }, kinds := [], alts := [], laidByText := true, laidKinds := [.data, .data, .data, .sentinel, .sentinel], laidTests := true, laidLooks := .later }
def SourceWaitsUptoCardSaid : Prop := Claim7.holds Tryz.pinned (.plain (OpenSpec.upto sourceWaitsSpec)) sourceWaitsUptoCard

/-- THE SECOND FORM's CARD OF 'furcatelaw07.SourceCalls'. -/
def sourceCallsUptoCard : Claim7 := { stood := { row := sourceCallsUptoRow, standIns := [], harness := (true, "e33c9b052f794ad68bf8c04e649933c1ce85ec3c2c959645f396766c35b87abc"), looks := true }, kinds := [], alts := [], laidByText := true, laidKinds := [.data, .data, .data, .sentinel, .sentinel], laidTests := true, laidLooks := .later }
def SourceCallsUptoCardSaid : Prop := Claim7.holds Tryz.pinned (.plain (OpenSpec.upto sourceCallsSpec)) sourceCallsUptoCard

/-- THE SECOND FORM's CARD OF 'furcatelaw07.SourceTypes'. -/
def sourceTypesUptoCard : Claim7 := { stood := { row := sourceTypesUptoRow, standIns := [], harness := (true, "e33c9b052f794ad68bf8c04e649933c1ce85ec3c2c959645f396766c35b87abc"), looks := true }, kinds := [], alts := [], laidByText := true, laidKinds := [.data, .data, .data, .sentinel, .sentinel], laidTests := true, laidLooks := .later }
def SourceTypesUptoCardSaid : Prop := Claim7.holds Tryz.pinned (.plain (OpenSpec.upto sourceTypesSpec)) sourceTypesUptoCard
end Rows
end Go.Proofs.YtdekkklnfifphaaGreatDoor
