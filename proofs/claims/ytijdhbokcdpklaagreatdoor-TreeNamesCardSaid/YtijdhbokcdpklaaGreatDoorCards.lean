/-
  DERIVED. GIVEN WITH THE SEED: THE CARDS: each row of YtijdhbokcdpklaaGreatDoorRows.lean that lists a variable, with what it lists TIED to the program's text (the seventh form; the later family's looks); each row that meets fmt, with fmt's text TOLD by the authors' own Lean function (tested against real Go, not proved from fmt's source: count such statements apart). THE CARD IS WHAT COUNTS. Prove the row's statement (the work); the ties are given (YtijdhbokcdpklaaGreatDoorTie.lean); close each card by the builder's one call (the guide's Derived/Test/ToyasCard.lean, 'card_holds'). Laid BY PROGRAM, IN A SANDBOX (cutbox-door.mjs). By AI agents, Wed Nov 11 2026. No macro, syntax, notation, axiom, sorry.
-/
import Derived.Test.YtijdhbokcdpklaaGreatDoorRows
import GoSem.ClaimSeven
namespace Go.Proofs.YtijdhbokcdpklaaGreatDoor
namespace Rows

/-- THE TIED CARD OF 'furcatelaw18.TreeForks'. -/
def treeForksCard : Claim7 := { stood := { row := treeForksRow, standIns := [], harness := (true, "ee08a03e08eef009e1a5a4424a6b704817cfc6478a6f6e0894c64e5dcf3ca5d3"), looks := true }, kinds := [], alts := [], laidByText := true, laidKinds := [.data, .data, .data, .sentinel, .sentinel], laidTests := true, laidLooks := .later }
def TreeForksCardSaid : Prop := Claim7.holds Tryz.pinned (.plain (OpenSpec.ofChange treeForksSpec)) treeForksCard

/-- THE TIED CARD OF 'furcatelaw18.TreeNames'. -/
def treeNamesCard : Claim7 := { stood := { row := treeNamesRow, standIns := [], harness := (true, "ee08a03e08eef009e1a5a4424a6b704817cfc6478a6f6e0894c64e5dcf3ca5d3"), looks := true }, kinds := [], alts := [], laidByText := true, laidKinds := [.data, .data, .data, .sentinel, .sentinel], laidTests := true, laidLooks := .later }
def TreeNamesCardSaid : Prop := Claim7.holds Tryz.pinned (.plain (OpenSpec.ofChange treeNamesSpec)) treeNamesCard

/-- THE SECOND FORM's CARD OF 'furcatelaw18.TreeForks'. -/
def treeForksUptoCard : Claim7 := { stood := { row := treeForksUptoRow, standIns := [], harness := (true, "ee08a03e08eef009e1a5a4424a6b704817cfc6478a6f6e0894c64e5dcf3ca5d3"), looks := true }, kinds := [], alts := [], laidByText := true, laidKinds := [.data, .data, .data, .sentinel, .sentinel], laidTests := true, laidLooks := .later }
def TreeForksUptoCardSaid : Prop := Claim7.holds Tryz.pinned (.plain (OpenSpec.upto treeForksSpec)) treeForksUptoCard

/-- THE SECOND FORM's CARD OF 'furcatelaw18.TreeNames'. -/
def treeNamesUptoCard : Claim7 := { stood := { row := treeNamesUptoRow, standIns := [], harness := (true, "ee08a03e08eef009e1a5a4424a6b704817cfc6478a6f6e0894c64e5dcf3ca5d3"), looks := true }, kinds := [], alts := [], laidByText := true, laidKinds := [.data, .data, .data, .sentinel, .sentinel], laidTests := true, laidLooks := .later }
def TreeNamesUptoCardSaid : Prop := Claim7.holds Tryz.pinned (.plain (OpenSpec.upto treeNamesSpec)) treeNamesUptoCard
end Rows
end Go.Proofs.YtijdhbokcdpklaaGreatDoor
