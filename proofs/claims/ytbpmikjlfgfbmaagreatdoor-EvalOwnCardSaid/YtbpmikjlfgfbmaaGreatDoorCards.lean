/-
  DERIVED. GIVEN WITH THE SEED: THE CARDS: each row of YtbpmikjlfgfbmaaGreatDoorRows.lean that lists a variable, with what it lists TIED to the program's text (the seventh form; the later family's looks); each row that meets fmt, with fmt's text TOLD by the authors' own Lean function (tested against real Go, not proved from fmt's source: count such statements apart). THE CARD IS WHAT COUNTS. Prove the row's statement (the work); the ties are given (YtbpmikjlfgfbmaaGreatDoorTie.lean); close each card by the builder's one call (the guide's Derived/Test/ToyasCard.lean, 'card_holds'). Laid BY PROGRAM, IN A SANDBOX (cutbox-door.mjs). By AI agents, Wed Nov 11 2026. No macro, syntax, notation, axiom, sorry.
-/
import Derived.Test.YtbpmikjlfgfbmaaGreatDoorRows
import GoSem.ClaimSeven
namespace Go.Proofs.YtbpmikjlfgfbmaaGreatDoor
namespace Rows

/-- THE TIED CARD OF 'furcatelaw06.EvalAll'. -/
def evalAllCard : Claim7 := { stood := { row := evalAllRow, standIns := [], harness := (true, "c8e7c285f5781e23f36d8b2f3d5f853699b69ab934239ac1feee293e6143b1ea"), looks := true }, kinds := [], alts := [], laidByText := true, laidKinds := [.data, .data, .data, .sentinel, .sentinel], laidTests := true, laidLooks := .later }
def EvalAllCardSaid : Prop := Claim7.holds Tryz.pinned (.plain (OpenSpec.ofChange evalAllSpec)) evalAllCard

/-- THE TIED CARD OF 'furcatelaw06.EvalTypes'. -/
def evalTypesCard : Claim7 := { stood := { row := evalTypesRow, standIns := [], harness := (true, "c8e7c285f5781e23f36d8b2f3d5f853699b69ab934239ac1feee293e6143b1ea"), looks := true }, kinds := [], alts := [], laidByText := true, laidKinds := [.data, .data, .data, .sentinel, .sentinel], laidTests := true, laidLooks := .later }
def EvalTypesCardSaid : Prop := Claim7.holds Tryz.pinned (.plain (OpenSpec.ofChange evalTypesSpec)) evalTypesCard

/-- THE TIED CARD OF 'furcatelaw06.EvalGets'. -/
def evalGetsCard : Claim7 := { stood := { row := evalGetsRow, standIns := [], harness := (true, "c8e7c285f5781e23f36d8b2f3d5f853699b69ab934239ac1feee293e6143b1ea"), looks := true }, kinds := [], alts := [], laidByText := true, laidKinds := [.data, .data, .data, .sentinel, .sentinel], laidTests := true, laidLooks := .later }
def EvalGetsCardSaid : Prop := Claim7.holds Tryz.pinned (.plain (OpenSpec.ofChange evalGetsSpec)) evalGetsCard

/-- THE TIED CARD OF 'furcatelaw06.EvalSigns'. -/
def evalSignsCard : Claim7 := { stood := { row := evalSignsRow, standIns := [], harness := (true, "c8e7c285f5781e23f36d8b2f3d5f853699b69ab934239ac1feee293e6143b1ea"), looks := true }, kinds := [], alts := [], laidByText := true, laidKinds := [.data, .data, .data, .sentinel, .sentinel], laidTests := true, laidLooks := .later }
def EvalSignsCardSaid : Prop := Claim7.holds Tryz.pinned (.plain (OpenSpec.ofChange evalSignsSpec)) evalSignsCard

/-- THE TIED CARD OF 'furcatelaw06.EvalOwn'. -/
def evalOwnCard : Claim7 := { stood := { row := evalOwnRow, standIns := [], harness := (true, "c8e7c285f5781e23f36d8b2f3d5f853699b69ab934239ac1feee293e6143b1ea"), looks := true }, kinds := [], alts := [], laidByText := true, laidKinds := [.data, .data, .data, .sentinel, .sentinel], laidTests := true, laidLooks := .later }
def EvalOwnCardSaid : Prop := Claim7.holds Tryz.pinned (.plain (OpenSpec.ofChange evalOwnSpec)) evalOwnCard

/-- THE SECOND FORM's CARD OF 'furcatelaw06.EvalAll'. -/
def evalAllUptoCard : Claim7 := { stood := { row := evalAllUptoRow, standIns := [], harness := (true, "c8e7c285f5781e23f36d8b2f3d5f853699b69ab934239ac1feee293e6143b1ea"), looks := true }, kinds := [], alts := [], laidByText := true, laidKinds := [.data, .data, .data, .sentinel, .sentinel], laidTests := true, laidLooks := .later }
def EvalAllUptoCardSaid : Prop := Claim7.holds Tryz.pinned (.plain (OpenSpec.upto evalAllSpec)) evalAllUptoCard

/-- THE SECOND FORM's CARD OF 'furcatelaw06.EvalTypes'. -/
def evalTypesUptoCard : Claim7 := { stood := { row := evalTypesUptoRow, standIns := [], harness := (true, "c8e7c285f5781e23f36d8b2f3d5f853699b69ab934239ac1feee293e6143b1ea"), looks := true }, kinds := [], alts := [], laidByText := true, laidKinds := [.data, .data, .data, .sentinel, .sentinel], laidTests := true, laidLooks := .later }
def EvalTypesUptoCardSaid : Prop := Claim7.holds Tryz.pinned (.plain (OpenSpec.upto evalTypesSpec)) evalTypesUptoCard

/-- THE SECOND FORM's CARD OF 'furcatelaw06.EvalGets'. -/
def evalGetsUptoCard : Claim7 := { stood := { row := evalGetsUptoRow, standIns := [], harness := (true, "c8e7c285f5781e23f36d8b2f3d5f853699b69ab934239ac1feee293e6143b1ea"), looks := true }, kinds := [], alts := [], laidByText := true, laidKinds := [.data, .data, .data, .sentinel, .sentinel], laidTests := true, laidLooks := .later }
def EvalGetsUptoCardSaid : Prop := Claim7.holds Tryz.pinned (.plain (OpenSpec.upto evalGetsSpec)) evalGetsUptoCard

/-- THE SECOND FORM's CARD OF 'furcatelaw06.EvalSigns'. -/
def evalSignsUptoCard : Claim7 := { stood := { row := evalSignsUptoRow, standIns := [], harness := (true, "c8e7c285f5781e23f36d8b2f3d5f853699b69ab934239ac1feee293e6143b1ea"), looks := true }, kinds := [], alts := [], laidByText := true, laidKinds := [.data, .data, .data, .sentinel, .sentinel], laidTests := true, laidLooks := .later }
def EvalSignsUptoCardSaid : Prop := Claim7.holds Tryz.pinned (.plain (OpenSpec.upto evalSignsSpec)) evalSignsUptoCard

/-- THE SECOND FORM's CARD OF 'furcatelaw06.EvalOwn'. -/
def evalOwnUptoCard : Claim7 := { stood := { row := evalOwnUptoRow, standIns := [], harness := (true, "c8e7c285f5781e23f36d8b2f3d5f853699b69ab934239ac1feee293e6143b1ea"), looks := true }, kinds := [], alts := [], laidByText := true, laidKinds := [.data, .data, .data, .sentinel, .sentinel], laidTests := true, laidLooks := .later }
def EvalOwnUptoCardSaid : Prop := Claim7.holds Tryz.pinned (.plain (OpenSpec.upto evalOwnSpec)) evalOwnUptoCard
end Rows
end Go.Proofs.YtbpmikjlfgfbmaaGreatDoor
