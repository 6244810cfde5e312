/-
  DERIVED. GIVEN WITH THE SEED: THE CARDS: each row of YtghoellpinmenaaGreatDoorRows.lean that lists a variable, with what it lists TIED to the program's text (the seventh form; the later family's looks); each row that meets fmt, with fmt's text TOLD by the authors' own Lean function (tested against real Go, not proved from fmt's source: count such statements apart). THE CARD IS WHAT COUNTS. Prove the row's statement (the work); the ties are given (YtghoellpinmenaaGreatDoorTie.lean); close each card by the builder's one call (the guide's Derived/Test/ToyasCard.lean, 'card_holds'). Laid BY PROGRAM, IN A SANDBOX (cutbox-door.mjs). By AI agents, Wed Nov 11 2026. No macro, syntax, notation, axiom, sorry.
-/
import Derived.Test.YtghoellpinmenaaGreatDoorRows
import GoSem.ClaimSeven
namespace Go.Proofs.YtghoellpinmenaaGreatDoor
namespace Rows

/-- THE TIED CARD OF 'furcatelaw13.TraceNone'. -/
def traceNoneCard : Claim7 := { stood := { row := traceNoneRow, standIns := [], harness := (true, "802921b9182a566b96bf41f86d3e490a2ca8e8ed6a7c4ded3cc25f4903738e3f"), looks := true }, kinds := [], alts := [], laidByText := true, laidKinds := [.data, .data, .data, .sentinel, .sentinel], laidTests := true, laidLooks := .later }
def TraceNoneCardSaid : Prop := Claim7.holds Tryz.pinned (.plain (OpenSpec.ofChange traceNoneSpec)) traceNoneCard

/-- THE TIED CARD OF 'furcatelaw13.TraceBad'. -/
def traceBadCard : Claim7 := { stood := { row := traceBadRow, standIns := [], harness := (true, "802921b9182a566b96bf41f86d3e490a2ca8e8ed6a7c4ded3cc25f4903738e3f"), looks := true }, kinds := [], alts := [], laidByText := true, laidKinds := [.data, .data, .data, .sentinel, .sentinel], laidTests := true, laidLooks := .later }
def TraceBadCardSaid : Prop := Claim7.holds Tryz.pinned (.plain (OpenSpec.ofChange traceBadSpec)) traceBadCard

/-- THE TIED CARD OF 'furcatelaw13.TraceTwice'. -/
def traceTwiceCard : Claim7 := { stood := { row := traceTwiceRow, standIns := [], harness := (true, "802921b9182a566b96bf41f86d3e490a2ca8e8ed6a7c4ded3cc25f4903738e3f"), looks := true }, kinds := [], alts := [], laidByText := true, laidKinds := [.data, .data, .data, .sentinel, .sentinel], laidTests := true, laidLooks := .later }
def TraceTwiceCardSaid : Prop := Claim7.holds Tryz.pinned (.plain (OpenSpec.ofChange traceTwiceSpec)) traceTwiceCard

/-- THE TIED CARD OF 'furcatelaw13.TraceSteps'. -/
def traceStepsCard : Claim7 := { stood := { row := traceStepsRow, standIns := [], harness := (true, "802921b9182a566b96bf41f86d3e490a2ca8e8ed6a7c4ded3cc25f4903738e3f"), looks := true }, kinds := [], alts := [], laidByText := true, laidKinds := [.data, .data, .data, .sentinel, .sentinel], laidTests := true, laidLooks := .later }
def TraceStepsCardSaid : Prop := Claim7.holds Tryz.pinned (.plain (OpenSpec.ofChange traceStepsSpec)) traceStepsCard

/-- THE TIED CARD OF 'furcatelaw13.TraceLater'. -/
def traceLaterCard : Claim7 := { stood := { row := traceLaterRow, standIns := [], harness := (true, "802921b9182a566b96bf41f86d3e490a2ca8e8ed6a7c4ded3cc25f4903738e3f"), looks := true }, kinds := [], alts := [], laidByText := true, laidKinds := [.data, .data, .data, .sentinel, .sentinel], laidTests := true, laidLooks := .later }
def TraceLaterCardSaid : Prop := Claim7.holds Tryz.pinned (.plain (OpenSpec.ofChange traceLaterSpec)) traceLaterCard

/-- THE TIED CARD OF 'furcatelaw11.VmClones'. -/
def vmClonesCard : Claim7 := { stood := { row := vmClonesRow, standIns := [], harness := (true, "802921b9182a566b96bf41f86d3e490a2ca8e8ed6a7c4ded3cc25f4903738e3f"), looks := true }, kinds := [], alts := [], laidByText := true, laidKinds := [.data, .data, .data, .sentinel, .sentinel], laidTests := true, laidLooks := .later }
def VmClonesCardSaid : Prop := Claim7.holds Tryz.pinned (.plain (OpenSpec.ofChange vmClonesSpec)) vmClonesCard

/-- THE SECOND FORM's CARD OF 'furcatelaw13.TraceNone'. -/
def traceNoneUptoCard : Claim7 := { stood := { row := traceNoneUptoRow, standIns := [], harness := (true, "802921b9182a566b96bf41f86d3e490a2ca8e8ed6a7c4ded3cc25f4903738e3f"), looks := true }, kinds := [], alts := [], laidByText := true, laidKinds := [.data, .data, .data, .sentinel, .sentinel], laidTests := true, laidLooks := .later }
def TraceNoneUptoCardSaid : Prop := Claim7.holds Tryz.pinned (.plain (OpenSpec.upto traceNoneSpec)) traceNoneUptoCard

/-- THE SECOND FORM's CARD OF 'furcatelaw13.TraceBad'. -/
def traceBadUptoCard : Claim7 := { stood := { row := traceBadUptoRow, standIns := [], harness := (true, "802921b9182a566b96bf41f86d3e490a2ca8e8ed6a7c4ded3cc25f4903738e3f"), looks := true }, kinds := [], alts := [], laidByText := true, laidKinds := [.data, .data, .data, .sentinel, .sentinel], laidTests := true, laidLooks := .later }
def TraceBadUptoCardSaid : Prop := Claim7.holds Tryz.pinned (.plain (OpenSpec.upto traceBadSpec)) traceBadUptoCard

/-- THE SECOND FORM's CARD OF 'furcatelaw13.TraceTwice'. -/
def traceTwiceUptoCard : Claim7 := { stood := { row := traceTwiceUptoRow, standIns := [], harness := (true, "802921b9182a566b96bf41f86d3e490a2ca8e8ed6a7c4ded3cc25f4903738e3f"), looks := true }, kinds := [], alts := [], laidByText := true, laidKinds := [.data, .data, .data, .sentinel, .sentinel], laidTests := true, laidLooks := .later }
def TraceTwiceUptoCardSaid : Prop := Claim7.holds Tryz.pinned (.plain (OpenSpec.upto traceTwiceSpec)) traceTwiceUptoCard

/-- THE SECOND FORM's CARD OF 'furcatelaw13.TraceSteps'. -/
def traceStepsUptoCard : Claim7 := { stood := { row := traceStepsUptoRow, standIns := [], harness := (true, "802921b9182a566b96bf41f86d3e490a2ca8e8ed6a7c4ded3cc25f4903738e3f"), looks := true }, kinds := [], alts := [], laidByText := true, laidKinds := [.data, .data, .data, .sentinel, .sentinel], laidTests := true, laidLooks := .later }
def TraceStepsUptoCardSaid : Prop := Claim7.holds Tryz.pinned (.plain (OpenSpec.upto traceStepsSpec)) traceStepsUptoCard

/-- THE SECOND FORM's CARD OF 'furcatelaw13.TraceLater'. -/
def traceLaterUptoCard : Claim7 := { stood := { row := traceLaterUptoRow, standIns := [], harness := (true, "802921b9182a566b96bf41f86d3e490a2ca8e8ed6a7c4ded3cc25f4903738e3f"), looks := true }, kinds := [], alts := [], laidByText := true, laidKinds := [.data, .data, .data, .sentinel, .sentinel], laidTests := true, laidLooks := .later }
def TraceLaterUptoCardSaid : Prop := Claim7.holds Tryz.pinned (.plain (OpenSpec.upto traceLaterSpec)) traceLaterUptoCard

/-- THE SECOND FORM's CARD OF 'furcatelaw11.VmClones'. -/
def vmClonesUptoCard : Claim7 := { stood := { row := vmClonesUptoRow, standIns := [], harness := (true, "802921b9182a566b96bf41f86d3e490a2ca8e8ed6a7c4ded3cc25f4903738e3f"), looks := true }, kinds := [], alts := [], laidByText := true, laidKinds := [.data, .data, .data, .sentinel, .sentinel], laidTests := true, laidLooks := .later }
def VmClonesUptoCardSaid : Prop := Claim7.holds Tryz.pinned (.plain (OpenSpec.upto vmClonesSpec)) vmClonesUptoCard
end Rows
end Go.Proofs.YtghoellpinmenaaGreatDoor
