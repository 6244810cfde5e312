/-
  DERIVED. GIVEN WITH THE SEED: THE CARDS: each row of YtfkgcobaheegbaaGreatDoorRows.lean that lists a variable, with what it lists TIED to the program's text (the seventh form; the later family's looks); each row that meets fmt, with fmt's text TOLD by the authors' own Lean function (tested against real Go, not proved from fmt's source: count such statements apart). THE CARD IS WHAT COUNTS. Prove the row's statement (the work); the ties are given (YtfkgcobaheegbaaGreatDoorTie.lean); close each card by the builder's one call (the guide's Derived/Test/ToyasCard.lean, 'card_holds'). Laid BY PROGRAM, IN A SANDBOX (cutbox-door.mjs). By AI agents, Wed Nov 11 2026. No macro, syntax, notation, axiom, sorry.
-/
import Derived.Test.YtfkgcobaheegbaaGreatDoorRows
import GoSem.ClaimSeven
namespace Go.Proofs.YtfkgcobaheegbaaGreatDoor
namespace Rows

/-- THE TIED CARD OF 'furcatelaw07.SourceRuns'. -/
def sourceRunsCard : Claim7 := { stood := { row := sourceRunsRow, standIns := [], harness := (true, "13e96154e99d1fb2bad62c0b80da184fef6d35ad9e14fd495c9f040a6371e3f9"), looks := true }, kinds := [], alts := [], laidByText := true, laidKinds := [.data, .data, .data, .sentinel, .sentinel], laidTests := true, laidLooks := .later }
def SourceRunsCardSaid : Prop := Claim7.holds Tryz.pinned (.plain (OpenSpec.ofChange sourceRunsSpec)) sourceRunsCard

/-- THE TIED CARD OF 'furcatelaw07.SourceParts'. -/
def sourcePartsCard : Claim7 := { stood := { row := sourcePartsRow, standIns := [], harness := (true, "13e96154e99d1fb2bad62c0b80da184fef6d35ad9e14fd495c9f040a6371e3f9"), looks := true }, kinds := [], alts := [], laidByText := true, laidKinds := [.data, .data, .data, .sentinel, .sentinel], laidTests := true, laidLooks := .later }
def SourcePartsCardSaid : Prop := Claim7.holds Tryz.pinned (.plain (OpenSpec.ofChange sourcePartsSpec)) sourcePartsCard

/-- THE TIED CARD OF 'furcatelaw07.SourceGrows'. -/
def sourceGrowsCard : Claim7 := { stood := { row := sourceGrowsRow, standIns := [], harness := (true, "13e96154e99d1fb2bad62c0b80da184fef6d35ad9e14fd495c9f040a6371e3f9"), looks := true }, kinds := [], alts := [], laidByText := true, laidKinds := [.data, .data, .data, .sentinel, .sentinel], laidTests := true, laidLooks := .later }
def SourceGrowsCardSaid : Prop := Claim7.holds Tryz.pinned (.plain (OpenSpec.ofChange sourceGrowsSpec)) sourceGrowsCard

/-- THE TIED CARD OF 'furcatelaw07.SourceWaits'. -/
def sourceWaitsCard : Claim7 := { stood := { row := sourceWaitsRow, standIns := [], harness := (true, "13e96154e99d1fb2bad62c0b80da184fef6d35ad9e14fd495c9f040a6371e3f9"), looks := true }, kinds := [], alts := [], laidByText := true, laidKinds := [.data, .data, .data, .sentinel, .sentinel], laidTests := true, laidLooks := .later }
def SourceWaitsCardSaid : Prop := Claim7.holds Tryz.pinned (.plain (OpenSpec.ofChange sourceWaitsSpec)) sourceWaitsCard

/-- THE TIED CARD OF 'furcatelaw07.SourceCalls'. -/
def sourceCallsCard : Claim7 := { stood := { row := sourceCallsRow, standIns := [], harness := (true, "13e96154e99d1fb2bad62c0b80da184fef6d35ad9e14fd495c9f040a6371e3f9"), looks := true }, kinds := [], alts := [], laidByText := true, laidKinds := [.data, .data, .data, .sentinel, .sentinel], laidTests := true, laidLooks := .later }
def SourceCallsCardSaid : Prop := Claim7.holds Tryz.pinned (.plain (OpenSpec.ofChange sourceCallsSpec)) sourceCallsCard

/-- THE TIED CARD OF 'furcatelaw07.SourceTypes'. -/
def sourceTypesCard : Claim7 := { stood := { row := sourceTypesRow, standIns := [], harness := (true, "13e96154e99d1fb2bad62c0b80da184fef6d35ad9e14fd495c9f040a6371e3f9"), looks := true }, kinds := [], alts := [], laidByText := true, laidKinds := [.data, .data, .data, .sentinel, .sentinel], laidTests := true, laidLooks := .later }
def SourceTypesCardSaid : Prop := Claim7.holds Tryz.pinned (.plain (OpenSpec.ofChange sourceTypesSpec)) sourceTypesCard

/-- THE TIED CARD OF 'furcatelaw11.VmRuns'. -/
def vmRunsCard : Claim7 := { stood := { row := vmRunsRow, standIns := [], harness := (true, "13e96154e99d1fb2bad62c0b80da184fef6d35ad9e14fd495c9f040a6371e3f9"), looks := true }, kinds := [], alts := [], laidByText := true, laidKinds := [.data, .data, .data, .sentinel, .sentinel], laidTests := true, laidLooks := .later }
def VmRunsCardSaid : Prop := Claim7.holds Tryz.pinned (.plain (OpenSpec.ofChange vmRunsSpec)) vmRunsCard

/-- THE TIED CARD OF 'furcatelaw11.VmMeans'. -/
def vmMeansCard : Claim7 := { stood := { row := vmMeansRow, standIns := [], harness := (true, "13e96154e99d1fb2bad62c0b80da184fef6d35ad9e14fd495c9f040a6371e3f9"), looks := true }, kinds := [], alts := [], laidByText := true, laidKinds := [.data, .data, .data, .sentinel, .sentinel], laidTests := true, laidLooks := .later }
def VmMeansCardSaid : Prop := Claim7.holds Tryz.pinned (.plain (OpenSpec.ofChange vmMeansSpec)) vmMeansCard

/-- THE TIED CARD OF 'furcatelaw11.VmPlaces'. -/
def vmPlacesCard : Claim7 := { stood := { row := vmPlacesRow, standIns := [], harness := (true, "13e96154e99d1fb2bad62c0b80da184fef6d35ad9e14fd495c9f040a6371e3f9"), looks := true }, kinds := [], alts := [], laidByText := true, laidKinds := [.data, .data, .data, .sentinel, .sentinel], laidTests := true, laidLooks := .later }
def VmPlacesCardSaid : Prop := Claim7.holds Tryz.pinned (.plain (OpenSpec.ofChange vmPlacesSpec)) vmPlacesCard

/-- THE TIED CARD OF 'furcatelaw11.VmClones'. -/
def vmClonesCard : Claim7 := { stood := { row := vmClonesRow, standIns := [], harness := (true, "13e96154e99d1fb2bad62c0b80da184fef6d35ad9e14fd495c9f040a6371e3f9"), looks := true }, kinds := [], alts := [], laidByText := true, laidKinds := [.data, .data, .data, .sentinel, .sentinel], laidTests := true, laidLooks := .later }
def VmClonesCardSaid : Prop := Claim7.holds Tryz.pinned (.plain (OpenSpec.ofChange vmClonesSpec)) vmClonesCard

/-- THE TIED CARD OF 'furcatelaw11.VmStops'. -/
def vmStopsCard : Claim7 := { stood := { row := vmStopsRow, standIns := [], harness := (true, "13e96154e99d1fb2bad62c0b80da184fef6d35ad9e14fd495c9f040a6371e3f9"), looks := true }, kinds := [], alts := [], laidByText := true, laidKinds := [.data, .data, .data, .sentinel, .sentinel], laidTests := true, laidLooks := .later }
def VmStopsCardSaid : Prop := Claim7.holds Tryz.pinned (.plain (OpenSpec.ofChange vmStopsSpec)) vmStopsCard

/-- THE TIED CARD OF 'furcatelaw12.ViewMeans'. -/
def viewMeansCard : Claim7 := { stood := { row := viewMeansRow, standIns := [], harness := (true, "13e96154e99d1fb2bad62c0b80da184fef6d35ad9e14fd495c9f040a6371e3f9"), looks := true }, kinds := [], alts := [], laidByText := true, laidKinds := [.data, .data, .data, .sentinel, .sentinel], laidTests := true, laidLooks := .later }
def ViewMeansCardSaid : Prop := Claim7.holds Tryz.pinned (.plain (OpenSpec.ofChange viewMeansSpec)) viewMeansCard

/-- THE SECOND FORM's CARD OF 'furcatelaw07.SourceRuns'. -/
def sourceRunsUptoCard : Claim7 := { stood := { row := sourceRunsUptoRow, standIns := [], harness := (true, "13e96154e99d1fb2bad62c0b80da184fef6d35ad9e14fd495c9f040a6371e3f9"), looks := true }, kinds := [], alts := [], laidByText := true, laidKinds := [.data, .data, .data, .sentinel, .sentinel], laidTests := true, laidLooks := .later }
def SourceRunsUptoCardSaid : Prop := Claim7.holds Tryz.pinned (.plain (OpenSpec.upto sourceRunsSpec)) sourceRunsUptoCard

/-- THE SECOND FORM's CARD OF 'furcatelaw07.SourceParts'. -/
def sourcePartsUptoCard : Claim7 := { stood := { row := sourcePartsUptoRow, standIns := [], harness := (true, "13e96154e99d1fb2bad62c0b80da184fef6d35ad9e14fd495c9f040a6371e3f9"), looks := true }, kinds := [], alts := [], laidByText := true, laidKinds := [.data, .data, .data, .sentinel, .sentinel], laidTests := true, laidLooks := .later }
def SourcePartsUptoCardSaid : Prop := Claim7.holds Tryz.pinned (.plain (OpenSpec.upto sourcePartsSpec)) sourcePartsUptoCard

/-- THE SECOND FORM's CARD OF 'furcatelaw07.SourceGrows'. -/
def sourceGrowsUptoCard : Claim7 := { stood := { row := sourceGrowsUptoRow, standIns := [], harness := (true, "13e96154e99d1fb2bad62c0b80da184fef6d35ad9e14fd495c9f040a6371e3f9"), looks := true }, kinds := [], alts := [], laidByText := true, laidKinds := [.data, .data, .data, .sentinel, .sentinel], laidTests := true, laidLooks := .later }
def SourceGrowsUptoCardSaid : Prop := Claim7.holds Tryz.pinned (.plain (OpenSpec.upto sourceGrowsSpec)) sourceGrowsUptoCard

/-- THE SECOND FORM's CARD OF 'furcatelaw07.SourceWaits'. -/
def sourceWaitsUptoCard : Claim7 := { stood := { row := sourceWaitsUptoRow, standIns := [], harness := (true, "13e96154e99d1fb2bad62c0b80da184fef6d35ad9e14fd495c9f040a6371e3f9"), looks := true }, kinds := [], alts := [], laidByText := true, laidKinds := [.data, .data, .data, .sentinel, .sentinel], laidTests := true, laidLooks := .later }
def SourceWaitsUptoCardSaid : Prop := Claim7.holds Tryz.pinned (.plain (OpenSpec.upto sourceWaitsSpec)) sourceWaitsUptoCard

/-- THE SECOND FORM's CARD OF 'furcatelaw07.SourceCalls'. -/
def sourceCallsUptoCard : Claim7 := { stood := { row := sourceCallsUptoRow, standIns := [], harness := (true, "13e96154e99d1fb2bad62c0b80da184fef6d35ad9e14fd495c9f040a6371e3f9"), looks := true }, kinds := [], alts := [], laidByText := true, laidKinds := [.data, .data, .data, .sentinel, .sentinel], laidTests := true, laidLooks := .later }
def SourceCallsUptoCardSaid : Prop := Claim7.holds Tryz.pinned (.plain (OpenSpec.upto sourceCallsSpec)) sourceCallsUptoCard

/-- THE SECOND FORM's CARD OF 'furcatelaw07.SourceTypes'. -/
def sourceTypesUptoCard : Claim7 := { stood := { row := sourceTypesUptoRow, standIns := [], harness := (true, "13e96154e99d1fb2bad62c0b80da184fef6d35ad9e14fd495c9f040a6371e3f9"), looks := true }, kinds := [], alts := [], laidByText := true, laidKinds := [.data, .data, .data, .sentinel, .sentinel], laidTests := true, laidLooks := .later }
def SourceTypesUptoCardSaid : Prop := Claim7.holds Tryz.pinned (.plain (OpenSpec.upto sourceTypesSpec)) sourceTypesUptoCard

/-- THE SECOND FORM's CARD OF 'furcatelaw11.VmRuns'. -/
def vmRunsUptoCard : Claim7 := { stood := { row := vmRunsUptoRow, standIns := [], harness := (true, "13e96154e99d1fb2bad62c0b80da184fef6d35ad9e14fd495c9f040a6371e3f9"), looks := true }, kinds := [], alts := [], laidByText := true, laidKinds := [.data, .data, .data, .sentinel, .sentinel], laidTests := true, laidLooks := .later }
def VmRunsUptoCardSaid : Prop := Claim7.holds Tryz.pinned (.plain (OpenSpec.upto vmRunsSpec)) vmRunsUptoCard

/-- THE SECOND FORM's CARD OF 'furcatelaw11.VmMeans'. -/
def vmMeansUptoCard : Claim7 := { stood := { row := vmMeansUptoRow, standIns := [], harness := (true, "13e96154e99d1fb2bad62c0b80da184fef6d35ad9e14fd495c9f040a6371e3f9"), looks := true }, kinds := [], alts := [], laidByText := true, laidKinds := [.data, .data, .data, .sentinel, .sentinel], laidTests := true, laidLooks := .later }
def VmMeansUptoCardSaid : Prop := Claim7.holds Tryz.pinned (.plain (OpenSpec.upto vmMeansSpec)) vmMeansUptoCard

/-- THE SECOND FORM's CARD OF 'furcatelaw11.VmPlaces'. -/
def vmPlacesUptoCard : Claim7 := { stood := { row := vmPlacesUptoRow, standIns := [], harness := (true, "13e96154e99d1fb2bad62c0b80da184fef6d35ad9e14fd495c9f040a6371e3f9"), looks := true }, kinds := [], alts := [], laidByText := true, laidKinds := [.data, .data, .data, .sentinel, .sentinel], laidTests := true, laidLooks := .later }
def VmPlacesUptoCardSaid : Prop := Claim7.holds Tryz.pinned (.plain (OpenSpec.upto vmPlacesSpec)) vmPlacesUptoCard

/-- THE SECOND FORM's CARD OF 'furcatelaw11.VmClones'. -/
def vmClonesUptoCard : Claim7 := { stood := { row := vmClonesUptoRow, standIns := [], harness := (true, "13e96154e99d1fb2bad62c0b80da184fef6d35ad9e14fd495c9f040a6371e3f9"), looks := true }, kinds := [], alts := [], laidByText := true, laidKinds := [.data, .data, .data, .sentinel, .sentinel], laidTests := true, laidLooks := .later }
def VmClonesUptoCardSaid : Prop := Claim7.holds Tryz.pinned (.plain (OpenSpec.upto vmClonesSpec)) vmClonesUptoCard

/-- THE SECOND FORM's CARD OF 'furcatelaw11.VmStops'. -/
def vmStopsUptoCard : Claim7 := { stood := { row := vmStopsUptoRow, standIns := [], harness := (true, "13e96154e99d1fb2bad62c0b80da184fef6d35ad9e14fd495c9f040a6371e3f9"), looks := true }, kinds := [], alts := [], laidByText := true, laidKinds := [.data, .data, .data, .sentinel, .sentinel], laidTests := true, laidLooks := .later }
def VmStopsUptoCardSaid : Prop := Claim7.holds Tryz.pinned (.plain (OpenSpec.upto vmStopsSpec)) vmStopsUptoCard

/-- THE SECOND FORM's CARD OF 'furcatelaw12.ViewMeans'. -/
def viewMeansUptoCard : Claim7 := { stood := { row := viewMeansUptoRow, standIns := [], harness := (true, "13e96154e99d1fb2bad62c0b80da184fef6d35ad9e14fd495c9f040a6371e3f9"), looks := true }, kinds := [], alts := [], laidByText := true, laidKinds := [.data, .data, .data, .sentinel, .sentinel], laidTests := true, laidLooks := .later }
def ViewMeansUptoCardSaid : Prop := Claim7.holds Tryz.pinned (.plain (OpenSpec.upto viewMeansSpec)) viewMeansUptoCard
end Rows
end Go.Proofs.YtfkgcobaheegbaaGreatDoor
