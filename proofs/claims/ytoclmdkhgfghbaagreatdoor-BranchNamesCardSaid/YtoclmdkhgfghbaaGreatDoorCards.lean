/-
  DERIVED. GIVEN WITH THE SEED: THE CARDS: each row of YtoclmdkhgfghbaaGreatDoorRows.lean that lists a variable, with what it lists TIED to the program's text (the seventh form; the later family's looks); each row that meets fmt, with fmt's text TOLD by the authors' own Lean function (tested against real Go, not proved from fmt's source: count such statements apart). THE CARD IS WHAT COUNTS. Prove the row's statement (the work); the ties are given (YtoclmdkhgfghbaaGreatDoorTie.lean); close each card by the builder's one call (the guide's Derived/Test/ToyasCard.lean, 'card_holds'). Laid BY PROGRAM, IN A SANDBOX (cutbox-door.mjs). By AI agents, Wed Nov 11 2026. No macro, syntax, notation, axiom, sorry.
-/
import Derived.Test.YtoclmdkhgfghbaaGreatDoorRows
import GoSem.ClaimSeven
namespace Go.Proofs.YtoclmdkhgfghbaaGreatDoor
namespace Rows

/-- THE TIED CARD OF 'furcatelaw17.BranchNames'. -/
def branchNamesCard : Claim7 := { stood := { row := branchNamesRow, standIns := [], harness := (true, "d591aecd8e9564e4c7e92223e454eaa68300b2bdd6b775ab65f752f8168e0400"), looks := true }, kinds := [], alts := [], laidByText := true, laidKinds := [.data, .data, .data, .sentinel, .sentinel], laidTests := true, laidLooks := .later }
def BranchNamesCardSaid : Prop := Claim7.holds Tryz.pinned (.plain (OpenSpec.ofChange branchNamesSpec)) branchNamesCard

/-- THE SECOND FORM's CARD OF 'furcatelaw17.BranchNames'. -/
def branchNamesUptoCard : Claim7 := { stood := { row := branchNamesUptoRow, standIns := [], harness := (true, "d591aecd8e9564e4c7e92223e454eaa68300b2bdd6b775ab65f752f8168e0400"), looks := true }, kinds := [], alts := [], laidByText := true, laidKinds := [.data, .data, .data, .sentinel, .sentinel], laidTests := true, laidLooks := .later }
def BranchNamesUptoCardSaid : Prop := Claim7.holds Tryz.pinned (.plain (OpenSpec.upto branchNamesSpec)) branchNamesUptoCard
end Rows
end Go.Proofs.YtoclmdkhgfghbaaGreatDoor
