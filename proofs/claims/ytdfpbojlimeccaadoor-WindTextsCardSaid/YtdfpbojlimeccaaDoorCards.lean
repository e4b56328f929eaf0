/-
  DERIVED. GIVEN WITH THE SEED: THE CARDS: each row of YtdfpbojlimeccaaDoorRows.lean that lists a variable, with what it lists TIED to the program's text (the seventh form; the later family's looks); each row that meets fmt, with fmt's text TOLD by the authors' own Lean function (tested against real Go, not proved from fmt's source: count such statements apart). THE CARD IS WHAT COUNTS. Prove the row's statement (the work); the ties are given (YtdfpbojlimeccaaDoorTie.lean); close each card by the builder's one call (the guide's Derived/Test/ToyasCard.lean, 'card_holds'). Laid BY PROGRAM, IN A SANDBOX (cutbox-door.mjs). By AI agents, Wed Nov 11 2026. No macro, syntax, notation, axiom, sorry.
-/
import Derived.Test.YtdfpbojlimeccaaDoorRows
import GoSem.ClaimSeven
namespace Go.Proofs.YtdfpbojlimeccaaDoor
namespace Rows

/-- THE TIED CARD OF 'flightdecklaw13.WindGround'. -/
def windGroundCard : Claim7 := { stood := { row := windGroundRow, standIns := [], harness := (true, "b15128454d393b4738f205614590ebd9a0f153b3e7754a26b2b4a64633df4483"), looks := false }, kinds := [], alts := [], laidByText := true, laidKinds := [.data, .data, .data], laidTests := true, laidLooks := .later }
def WindGroundCardSaid : Prop := Claim7.holds Tryd.pinned (.plain (OpenSpec.ofChange windGroundSpec)) windGroundCard

/-- THE TIED CARD OF 'flightdecklaw13.WindEncloses'. -/
def windEnclosesCard : Claim7 := { stood := { row := windEnclosesRow, standIns := [], harness := (true, "b15128454d393b4738f205614590ebd9a0f153b3e7754a26b2b4a64633df4483"), looks := false }, kinds := [], alts := [], laidByText := true, laidKinds := [.data, .data, .data], laidTests := true, laidLooks := .later }
def WindEnclosesCardSaid : Prop := Claim7.holds Tryd.pinned (.plain (OpenSpec.ofChange windEnclosesSpec)) windEnclosesCard

/-- THE TIED CARD OF 'flightdecklaw13.WindBounds'. -/
def windBoundsCard : Claim7 := { stood := { row := windBoundsRow, standIns := [], harness := (true, "b15128454d393b4738f205614590ebd9a0f153b3e7754a26b2b4a64633df4483"), looks := false }, kinds := [], alts := [], laidByText := true, laidKinds := [.data, .data, .data], laidTests := true, laidLooks := .later }
def WindBoundsCardSaid : Prop := Claim7.holds Tryd.pinned (.plain (OpenSpec.ofChange windBoundsSpec)) windBoundsCard

/-- THE TIED CARD OF 'flightdecklaw13.WindTriangle'. -/
def windTriangleCard : Claim7 := { stood := { row := windTriangleRow, standIns := [], harness := (true, "b15128454d393b4738f205614590ebd9a0f153b3e7754a26b2b4a64633df4483"), looks := false }, kinds := [], alts := [], laidByText := true, laidKinds := [.data, .data, .data], laidTests := true, laidLooks := .later }
def WindTriangleCardSaid : Prop := Claim7.holds Tryd.pinned (.plain (OpenSpec.ofChange windTriangleSpec)) windTriangleCard

/-- THE TIED CARD OF 'flightdecklaw13.WindTexts'. -/
def windTextsCard : Claim7 := { stood := { row := windTextsRow, standIns := [], harness := (true, "b15128454d393b4738f205614590ebd9a0f153b3e7754a26b2b4a64633df4483"), looks := false }, kinds := [], alts := [], laidByText := true, laidKinds := [.data, .data, .data], laidTests := true, laidLooks := .later }
def WindTextsCardSaid : Prop := Claim7.holds Tryd.pinned (.plain (OpenSpec.ofChange windTextsSpec)) windTextsCard

/-- THE TIED CARD OF 'flightdecklaw13.WindSets'. -/
def windSetsCard : Claim7 := { stood := { row := windSetsRow, standIns := [], harness := (true, "b15128454d393b4738f205614590ebd9a0f153b3e7754a26b2b4a64633df4483"), looks := false }, kinds := [], alts := [], laidByText := true, laidKinds := [.data, .data, .data], laidTests := true, laidLooks := .later }
def WindSetsCardSaid : Prop := Claim7.holds Tryd.pinned (.plain (OpenSpec.ofChange windSetsSpec)) windSetsCard

/-- THE TIED CARD OF 'flightdecklaw13.WindBoxes'. -/
def windBoxesCard : Claim7 := { stood := { row := windBoxesRow, standIns := [], harness := (true, "b15128454d393b4738f205614590ebd9a0f153b3e7754a26b2b4a64633df4483"), looks := false }, kinds := [], alts := [], laidByText := true, laidKinds := [.data, .data, .data], laidTests := true, laidLooks := .later }
def WindBoxesCardSaid : Prop := Claim7.holds Tryd.pinned (.plain (OpenSpec.ofChange windBoxesSpec)) windBoxesCard

/-- THE TIED CARD OF 'flightdecklaw13.WindParts'. -/
def windPartsCard : Claim7 := { stood := { row := windPartsRow, standIns := [], harness := (true, "b15128454d393b4738f205614590ebd9a0f153b3e7754a26b2b4a64633df4483"), looks := false }, kinds := [], alts := [], laidByText := true, laidKinds := [.data, .data, .data], laidTests := true, laidLooks := .later }
def WindPartsCardSaid : Prop := Claim7.holds Tryd.pinned (.plain (OpenSpec.ofChange windPartsSpec)) windPartsCard

/-- THE TIED CARD OF 'flightdecklaw13.WindDirections'. -/
def windDirectionsCard : Claim7 := { stood := { row := windDirectionsRow, standIns := [], harness := (true, "b15128454d393b4738f205614590ebd9a0f153b3e7754a26b2b4a64633df4483"), looks := false }, kinds := [], alts := [], laidByText := true, laidKinds := [.data, .data, .data], laidTests := true, laidLooks := .later }
def WindDirectionsCardSaid : Prop := Claim7.holds Tryd.pinned (.plain (OpenSpec.ofChange windDirectionsSpec)) windDirectionsCard

/-- THE SECOND FORM's CARD OF 'flightdecklaw13.WindGround'. -/
def windGroundUptoCard : Claim7 := { stood := { row := windGroundUptoRow, standIns := [], harness := (true, "b15128454d393b4738f205614590ebd9a0f153b3e7754a26b2b4a64633df4483"), looks := false }, kinds := [], alts := [], laidByText := true, laidKinds := [.data, .data, .data], laidTests := true, laidLooks := .later }
def WindGroundUptoCardSaid : Prop := Claim7.holds Tryd.pinned (.plain (OpenSpec.upto windGroundSpec)) windGroundUptoCard

/-- THE SECOND FORM's CARD OF 'flightdecklaw13.WindEncloses'. -/
def windEnclosesUptoCard : Claim7 := { stood := { row := windEnclosesUptoRow, standIns := [], harness := (true, "b15128454d393b4738f205614590ebd9a0f153b3e7754a26b2b4a64633df4483"), looks := false }, kinds := [], alts := [], laidByText := true, laidKinds := [.data, .data, .data], laidTests := true, laidLooks := .later }
def WindEnclosesUptoCardSaid : Prop := Claim7.holds Tryd.pinned (.plain (OpenSpec.upto windEnclosesSpec)) windEnclosesUptoCard

/-- THE SECOND FORM's CARD OF 'flightdecklaw13.WindBounds'. -/
def windBoundsUptoCard : Claim7 := { stood := { row := windBoundsUptoRow, standIns := [], harness := (true, "b15128454d393b4738f205614590ebd9a0f153b3e7754a26b2b4a64633df4483"), looks := false }, kinds := [], alts := [], laidByText := true, laidKinds := [.data, .data, .data], laidTests := true, laidLooks := .later }
def WindBoundsUptoCardSaid : Prop := Claim7.holds Tryd.pinned (.plain (OpenSpec.upto windBoundsSpec)) windBoundsUptoCard

/-- THE SECOND FORM's CARD OF 'flightdecklaw13.WindTriangle'. -/
def windTriangleUptoCard : Claim7 := { stood := { row := windTriangleUptoRow, standIns := [], harness := (true, "b15128454d393b4738f205614590ebd9a0f153b3e7754a26b2b4a64633df4483"), looks := false }, kinds := [], alts := [], laidByText := true, laidKinds := [.data, .data, .data], laidTests := true, laidLooks := .later }
def WindTriangleUptoCardSaid : Prop := Claim7.holds Tryd.pinned (.plain (OpenSpec.upto windTriangleSpec)) windTriangleUptoCard

/-- THE SECOND FORM's CARD OF 'flightdecklaw13.WindTexts'. -/
def windTextsUptoCard : Claim7 := { stood := { row := windTextsUptoRow, standIns := [], harness := (true, "b15128454d393b4738f205614590ebd9a0f153b3e7754a26b2b4a64633df4483"), looks := false }, kinds := [], alts := [], laidByText := true, laidKinds := [.data, .data, .data], laidTests := true, laidLooks := .later }
def WindTextsUptoCardSaid : Prop := Claim7.holds Tryd.pinned (.plain (OpenSpec.upto windTextsSpec)) windTextsUptoCard

/-- THE SECOND FORM's CARD OF 'flightdecklaw13.WindSets'. -/
def windSetsUptoCard : Claim7 := { stood := { row := windSetsUptoRow, standIns := [], harness := (true, "b15128454d393b4738f205614590ebd9a0f153b3e7754a26b2b4a64633df4483"), looks := false }, kinds := [], alts := [], laidByText := true, laidKinds := [.data, .data, .data], laidTests := true, laidLooks := .later }
def WindSetsUptoCardSaid : Prop := Claim7.holds Tryd.pinned (.plain (OpenSpec.upto windSetsSpec)) windSetsUptoCard

/-- THE SECOND FORM's CARD OF 'flightdecklaw13.WindBoxes'. -/
def windBoxesUptoCard : Claim7 := { stood := { row := windBoxesUptoRow, standIns := [], harness := (true, "b15128454d393b4738f205614590ebd9a0f153b3e7754a26b2b4a64633df4483"), looks := false }, kinds := [], alts := [], laidByText := true, laidKinds := [.data, .data, .data], laidTests := true, laidLooks := .later }
def WindBoxesUptoCardSaid : Prop := Claim7.holds Tryd.pinned (.plain (OpenSpec.upto windBoxesSpec)) windBoxesUptoCard

/-- THE SECOND FORM's CARD OF 'flightdecklaw13.WindParts'. -/
def windPartsUptoCard : Claim7 := { stood := { row := windPartsUptoRow, standIns := [], harness := (true, "b15128454d393b4738f205614590ebd9a0f153b3e7754a26b2b4a64633df4483"), looks := false }, kinds := [], alts := [], laidByText := true, laidKinds := [.data, .data, .data], laidTests := true, laidLooks := .later }
def WindPartsUptoCardSaid : Prop := Claim7.holds Tryd.pinned (.plain (OpenSpec.upto windPartsSpec)) windPartsUptoCard

/-- THE SECOND FORM's CARD OF 'flightdecklaw13.WindDirections'. -/
def windDirectionsUptoCard : Claim7 := { stood := { row := windDirectionsUptoRow, standIns := [], harness := (true, "b15128454d393b4738f205614590ebd9a0f153b3e7754a26b2b4a64633df4483"), looks := false }, kinds := [], alts := [], laidByText := true, laidKinds := [.data, .data, .data], laidTests := true, laidLooks := .later }
def WindDirectionsUptoCardSaid : Prop := Claim7.holds Tryd.pinned (.plain (OpenSpec.upto windDirectionsSpec)) windDirectionsUptoCard
end Rows
end Go.Proofs.YtdfpbojlimeccaaDoor
