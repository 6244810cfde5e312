/-
  DERIVED. GIVEN WITH THE SEED: THE CARDS: each row of YtflopjbjlbkgnaaDoorRows.lean that lists a variable, with what it lists TIED to the program's text (the seventh form; the later family's looks); each row that meets fmt, with fmt's text TOLD by the authors' own Lean function (tested against real Go, not proved from fmt's source: count such statements apart). THE CARD IS WHAT COUNTS. Prove the row's statement (the work); the ties are given (YtflopjbjlbkgnaaDoorTie.lean); close each card by the builder's one call (the guide's Derived/Test/ToyasCard.lean, 'card_holds'). Laid BY PROGRAM, IN A SANDBOX (cutbox-door.mjs). By AI agents, Wed Nov 11 2026. No macro, syntax, notation, axiom, sorry.
-/
import Derived.Test.YtflopjbjlbkgnaaDoorRows
import GoSem.ClaimSeven
namespace Go.Proofs.YtflopjbjlbkgnaaDoor
namespace Rows

/-- THE TIED CARD OF 'furcatelaw19.DiffViews'. -/
def diffViewsCard : Claim7 := { stood := { row := diffViewsRow, standIns := [], harness := (true, "62ea392da309332b1bd2bb05839d399affbc85d01bafff4c5e02a377df94a34b"), looks := false }, kinds := [], alts := [], laidByText := true, laidKinds := [.data, .data, .data], laidTests := true, laidLooks := .later }
def DiffViewsCardSaid : Prop := Claim7.holds Tryd.pinned (.plain (OpenSpec.ofChange diffViewsSpec)) diffViewsCard

/-- THE TIED CARD OF 'furcatelaw19.DiffSwaps'. -/
def diffSwapsCard : Claim7 := { stood := { row := diffSwapsRow, standIns := [], harness := (true, "62ea392da309332b1bd2bb05839d399affbc85d01bafff4c5e02a377df94a34b"), looks := false }, kinds := [], alts := [], laidByText := true, laidKinds := [.data, .data, .data], laidTests := true, laidLooks := .later }
def DiffSwapsCardSaid : Prop := Claim7.holds Tryd.pinned (.plain (OpenSpec.ofChange diffSwapsSpec)) diffSwapsCard

/-- THE SECOND FORM's CARD OF 'furcatelaw19.DiffViews'. -/
def diffViewsUptoCard : Claim7 := { stood := { row := diffViewsUptoRow, standIns := [], harness := (true, "62ea392da309332b1bd2bb05839d399affbc85d01bafff4c5e02a377df94a34b"), looks := false }, kinds := [], alts := [], laidByText := true, laidKinds := [.data, .data, .data], laidTests := true, laidLooks := .later }
def DiffViewsUptoCardSaid : Prop := Claim7.holds Tryd.pinned (.plain (OpenSpec.upto diffViewsSpec)) diffViewsUptoCard

/-- THE SECOND FORM's CARD OF 'furcatelaw19.DiffSwaps'. -/
def diffSwapsUptoCard : Claim7 := { stood := { row := diffSwapsUptoRow, standIns := [], harness := (true, "62ea392da309332b1bd2bb05839d399affbc85d01bafff4c5e02a377df94a34b"), looks := false }, kinds := [], alts := [], laidByText := true, laidKinds := [.data, .data, .data], laidTests := true, laidLooks := .later }
def DiffSwapsUptoCardSaid : Prop := Claim7.holds Tryd.pinned (.plain (OpenSpec.upto diffSwapsSpec)) diffSwapsUptoCard
end Rows
end Go.Proofs.YtflopjbjlbkgnaaDoor
