/-
  DERIVED. GIVEN WITH THE SEED: THE CARDS: each row of YtbjookcdpondlaaGreatDoorRows.lean that lists a variable, with what it lists TIED to the program's text (the seventh form; the later family's looks); each row that meets fmt, with fmt's text TOLD by the authors' own Lean function (tested against real Go, not proved from fmt's source: count such statements apart). THE CARD IS WHAT COUNTS. Prove the row's statement (the work); the ties are given (YtbjookcdpondlaaGreatDoorTie.lean); close each card by the builder's one call (the guide's Derived/Test/ToyasCard.lean, 'card_holds'). Laid BY PROGRAM, IN A SANDBOX (cutbox-door.mjs). By AI agents, Wed Nov 11 2026. No macro, syntax, notation, axiom, sorry.
-/
import Derived.Test.YtbjookcdpondlaaGreatDoorRows
import GoSem.ClaimSeven
namespace Go.Proofs.YtbjookcdpondlaaGreatDoor
namespace Rows

/-- THE TIED CARD OF 'furcatelaw11.VmMeans'. -/
def vmMeansCard : Claim7 := { stood := { row := vmMeansRow, standIns := [], harness := (true, "e3fe14ea7d069fc1d6421670a8e6576a56e97a64619ec68597a5e13677487e5e"), looks := true }, kinds := [], alts := [], laidByText := true, laidKinds := [.data, .data, .data, .sentinel, .sentinel], laidTests := true, laidLooks := .later }
def VmMeansCardSaid : Prop := Claim7.holds Tryz.pinned (.plain (OpenSpec.ofChange vmMeansSpec)) vmMeansCard

/-- THE SECOND FORM's CARD OF 'furcatelaw11.VmMeans'. -/
def vmMeansUptoCard : Claim7 := { stood := { row := vmMeansUptoRow, standIns := [], harness := (true, "e3fe14ea7d069fc1d6421670a8e6576a56e97a64619ec68597a5e13677487e5e"), looks := true }, kinds := [], alts := [], laidByText := true, laidKinds := [.data, .data, .data, .sentinel, .sentinel], laidTests := true, laidLooks := .later }
def VmMeansUptoCardSaid : Prop := Claim7.holds Tryz.pinned (.plain (OpenSpec.upto vmMeansSpec)) vmMeansUptoCard
end Rows
end Go.Proofs.YtbjookcdpondlaaGreatDoor
