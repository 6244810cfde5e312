/-
  DERIVED. GIVEN WITH THE SEED: THE CARDS: each row of YtjpcgmjaipfgdaaGreatDoorRows.lean that lists a variable, with what it lists TIED to the program's text (the seventh form; the later family's looks); each row that meets fmt, with fmt's text TOLD by the authors' own Lean function (tested against real Go, not proved from fmt's source: count such statements apart). THE CARD IS WHAT COUNTS. Prove the row's statement (the work); the ties are given (YtjpcgmjaipfgdaaGreatDoorTie.lean); close each card by the builder's one call (the guide's Derived/Test/ToyasCard.lean, 'card_holds'). Laid BY PROGRAM, IN A SANDBOX (cutbox-door.mjs). By AI agents, Wed Nov 11 2026. No macro, syntax, notation, axiom, sorry.
-/
import Derived.Test.YtjpcgmjaipfgdaaGreatDoorRows
import GoSem.ClaimSeven
namespace Go.Proofs.YtjpcgmjaipfgdaaGreatDoor
namespace Rows

/-- THE TIED CARD OF 'furcatelaw15.ReplayBack'. -/
def replayBackCard : Claim7 := { stood := { row := replayBackRow, standIns := [], harness := (true, "a704b66cf2a32d18564fecb72a27a3f57fe5e5107d071b54812360ce6562d73c"), looks := true }, kinds := [], alts := [], laidByText := true, laidKinds := [.data, .data, .data, .sentinel, .sentinel], laidTests := true, laidLooks := .later }
def ReplayBackCardSaid : Prop := Claim7.holds Tryz.pinned (.plain (OpenSpec.ofChange replayBackSpec)) replayBackCard

/-- THE TIED CARD OF 'furcatelaw17.BranchForks'. -/
def branchForksCard : Claim7 := { stood := { row := branchForksRow, standIns := [], harness := (true, "a704b66cf2a32d18564fecb72a27a3f57fe5e5107d071b54812360ce6562d73c"), looks := true }, kinds := [], alts := [], laidByText := true, laidKinds := [.data, .data, .data, .sentinel, .sentinel], laidTests := true, laidLooks := .later }
def BranchForksCardSaid : Prop := Claim7.holds Tryz.pinned (.plain (OpenSpec.ofChange branchForksSpec)) branchForksCard

/-- THE TIED CARD OF 'furcatelaw17.BranchAdds'. -/
def branchAddsCard : Claim7 := { stood := { row := branchAddsRow, standIns := [], harness := (true, "a704b66cf2a32d18564fecb72a27a3f57fe5e5107d071b54812360ce6562d73c"), looks := true }, kinds := [], alts := [], laidByText := true, laidKinds := [.data, .data, .data, .sentinel, .sentinel], laidTests := true, laidLooks := .later }
def BranchAddsCardSaid : Prop := Claim7.holds Tryz.pinned (.plain (OpenSpec.ofChange branchAddsSpec)) branchAddsCard

/-- THE TIED CARD OF 'furcatelaw19.DiffLines'. -/
def diffLinesCard : Claim7 := { stood := { row := diffLinesRow, standIns := [], harness := (true, "a704b66cf2a32d18564fecb72a27a3f57fe5e5107d071b54812360ce6562d73c"), looks := true }, kinds := [], alts := [], laidByText := true, laidKinds := [.data, .data, .data, .sentinel, .sentinel], laidTests := true, laidLooks := .later }
def DiffLinesCardSaid : Prop := Claim7.holds Tryz.pinned (.plain (OpenSpec.ofChange diffLinesSpec)) diffLinesCard

/-- THE TIED CARD OF 'furcatelaw17.BranchKeeps'. -/
def branchKeepsCard : Claim7 := { stood := { row := branchKeepsRow, standIns := [], harness := (true, "a704b66cf2a32d18564fecb72a27a3f57fe5e5107d071b54812360ce6562d73c"), looks := true }, kinds := [], alts := [], laidByText := true, laidKinds := [.data, .data, .data, .sentinel, .sentinel], laidTests := true, laidLooks := .later }
def BranchKeepsCardSaid : Prop := Claim7.holds Tryz.pinned (.plain (OpenSpec.ofChange branchKeepsSpec)) branchKeepsCard

/-- THE TIED CARD OF 'furcatelaw18.TreeOthers'. -/
def treeOthersCard : Claim7 := { stood := { row := treeOthersRow, standIns := [], harness := (true, "a704b66cf2a32d18564fecb72a27a3f57fe5e5107d071b54812360ce6562d73c"), looks := true }, kinds := [], alts := [], laidByText := true, laidKinds := [.data, .data, .data, .sentinel, .sentinel], laidTests := true, laidLooks := .later }
def TreeOthersCardSaid : Prop := Claim7.holds Tryz.pinned (.plain (OpenSpec.ofChange treeOthersSpec)) treeOthersCard

/-- THE TIED CARD OF 'furcatelaw18.TreeForks'. -/
def treeForksCard : Claim7 := { stood := { row := treeForksRow, standIns := [], harness := (true, "a704b66cf2a32d18564fecb72a27a3f57fe5e5107d071b54812360ce6562d73c"), looks := true }, kinds := [], alts := [], laidByText := true, laidKinds := [.data, .data, .data, .sentinel, .sentinel], laidTests := true, laidLooks := .later }
def TreeForksCardSaid : Prop := Claim7.holds Tryz.pinned (.plain (OpenSpec.ofChange treeForksSpec)) treeForksCard

/-- THE TIED CARD OF 'furcatelaw18.TreeGoes'. -/
def treeGoesCard : Claim7 := { stood := { row := treeGoesRow, standIns := [], harness := (true, "a704b66cf2a32d18564fecb72a27a3f57fe5e5107d071b54812360ce6562d73c"), looks := true }, kinds := [], alts := [], laidByText := true, laidKinds := [.data, .data, .data, .sentinel, .sentinel], laidTests := true, laidLooks := .later }
def TreeGoesCardSaid : Prop := Claim7.holds Tryz.pinned (.plain (OpenSpec.ofChange treeGoesSpec)) treeGoesCard

/-- THE TIED CARD OF 'furcatelaw18.TreeNames'. -/
def treeNamesCard : Claim7 := { stood := { row := treeNamesRow, standIns := [], harness := (true, "a704b66cf2a32d18564fecb72a27a3f57fe5e5107d071b54812360ce6562d73c"), looks := true }, kinds := [], alts := [], laidByText := true, laidKinds := [.data, .data, .data, .sentinel, .sentinel], laidTests := true, laidLooks := .later }
def TreeNamesCardSaid : Prop := Claim7.holds Tryz.pinned (.plain (OpenSpec.ofChange treeNamesSpec)) treeNamesCard

/-- THE SECOND FORM's CARD OF 'furcatelaw15.ReplayBack'. -/
def replayBackUptoCard : Claim7 := { stood := { row := replayBackUptoRow, standIns := [], harness := (true, "a704b66cf2a32d18564fecb72a27a3f57fe5e5107d071b54812360ce6562d73c"), looks := true }, kinds := [], alts := [], laidByText := true, laidKinds := [.data, .data, .data, .sentinel, .sentinel], laidTests := true, laidLooks := .later }
def ReplayBackUptoCardSaid : Prop := Claim7.holds Tryz.pinned (.plain (OpenSpec.upto replayBackSpec)) replayBackUptoCard

/-- THE SECOND FORM's CARD OF 'furcatelaw17.BranchForks'. -/
def branchForksUptoCard : Claim7 := { stood := { row := branchForksUptoRow, standIns := [], harness := (true, "a704b66cf2a32d18564fecb72a27a3f57fe5e5107d071b54812360ce6562d73c"), looks := true }, kinds := [], alts := [], laidByText := true, laidKinds := [.data, .data, .data, .sentinel, .sentinel], laidTests := true, laidLooks := .later }
def BranchForksUptoCardSaid : Prop := Claim7.holds Tryz.pinned (.plain (OpenSpec.upto branchForksSpec)) branchForksUptoCard

/-- THE SECOND FORM's CARD OF 'furcatelaw17.BranchAdds'. -/
def branchAddsUptoCard : Claim7 := { stood := { row := branchAddsUptoRow, standIns := [], harness := (true, "a704b66cf2a32d18564fecb72a27a3f57fe5e5107d071b54812360ce6562d73c"), looks := true }, kinds := [], alts := [], laidByText := true, laidKinds := [.data, .data, .data, .sentinel, .sentinel], laidTests := true, laidLooks := .later }
def BranchAddsUptoCardSaid : Prop := Claim7.holds Tryz.pinned (.plain (OpenSpec.upto branchAddsSpec)) branchAddsUptoCard

/-- THE SECOND FORM's CARD OF 'furcatelaw19.DiffLines'. -/
def diffLinesUptoCard : Claim7 := { stood := { row := diffLinesUptoRow, standIns := [], harness := (true, "a704b66cf2a32d18564fecb72a27a3f57fe5e5107d071b54812360ce6562d73c"), looks := true }, kinds := [], alts := [], laidByText := true, laidKinds := [.data, .data, .data, .sentinel, .sentinel], laidTests := true, laidLooks := .later }
def DiffLinesUptoCardSaid : Prop := Claim7.holds Tryz.pinned (.plain (OpenSpec.upto diffLinesSpec)) diffLinesUptoCard

/-- THE SECOND FORM's CARD OF 'furcatelaw17.BranchKeeps'. -/
def branchKeepsUptoCard : Claim7 := { stood := { row := branchKeepsUptoRow, standIns := [], harness := (true, "a704b66cf2a32d18564fecb72a27a3f57fe5e5107d071b54812360ce6562d73c"), looks := true }, kinds := [], alts := [], laidByText := true, laidKinds := [.data, .data, .data, .sentinel, .sentinel], laidTests := true, laidLooks := .later }
def BranchKeepsUptoCardSaid : Prop := Claim7.holds Tryz.pinned (.plain (OpenSpec.upto branchKeepsSpec)) branchKeepsUptoCard

/-- THE SECOND FORM's CARD OF 'furcatelaw18.TreeOthers'. -/
def treeOthersUptoCard : Claim7 := { stood := { row := treeOthersUptoRow, standIns := [], harness := (true, "a704b66cf2a32d18564fecb72a27a3f57fe5e5107d071b54812360ce6562d73c"), looks := true }, kinds := [], alts := [], laidByText := true, laidKinds := [.data, .data, .data, .sentinel, .sentinel], laidTests := true, laidLooks := .later }
def TreeOthersUptoCardSaid : Prop := Claim7.holds Tryz.pinned (.plain (OpenSpec.upto treeOthersSpec)) treeOthersUptoCard

/-- THE SECOND FORM's CARD OF 'furcatelaw18.TreeForks'. -/
def treeForksUptoCard : Claim7 := { stood := { row := treeForksUptoRow, standIns := [], harness := (true, "a704b66cf2a32d18564fecb72a27a3f57fe5e5107d071b54812360ce6562d73c"), looks := true }, kinds := [], alts := [], laidByText := true, laidKinds := [.data, .data, .data, .sentinel, .sentinel], laidTests := true, laidLooks := .later }
def TreeForksUptoCardSaid : Prop := Claim7.holds Tryz.pinned (.plain (OpenSpec.upto treeForksSpec)) treeForksUptoCard

/-- THE SECOND FORM's CARD OF 'furcatelaw18.TreeGoes'. -/
def treeGoesUptoCard : Claim7 := { stood := { row := treeGoesUptoRow, standIns := [], harness := (true, "a704b66cf2a32d18564fecb72a27a3f57fe5e5107d071b54812360ce6562d73c"), looks := true }, kinds := [], alts := [], laidByText := true, laidKinds := [.data, .data, .data, .sentinel, .sentinel], laidTests := true, laidLooks := .later }
def TreeGoesUptoCardSaid : Prop := Claim7.holds Tryz.pinned (.plain (OpenSpec.upto treeGoesSpec)) treeGoesUptoCard

/-- THE SECOND FORM's CARD OF 'furcatelaw18.TreeNames'. -/
def treeNamesUptoCard : Claim7 := { stood := { row := treeNamesUptoRow, standIns := [], harness := (true, "a704b66cf2a32d18564fecb72a27a3f57fe5e5107d071b54812360ce6562d73c"), looks := true }, kinds := [], alts := [], laidByText := true, laidKinds := [.data, .data, .data, .sentinel, .sentinel], laidTests := true, laidLooks := .later }
def TreeNamesUptoCardSaid : Prop := Claim7.holds Tryz.pinned (.plain (OpenSpec.upto treeNamesSpec)) treeNamesUptoCard
end Rows
end Go.Proofs.YtjpcgmjaipfgdaaGreatDoor
