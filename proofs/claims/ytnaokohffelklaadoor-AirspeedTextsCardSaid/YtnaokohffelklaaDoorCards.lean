/-
  DERIVED. GIVEN WITH THE SEED: THE CARDS: each row of YtnaokohffelklaaDoorRows.lean that lists a variable, with what it lists TIED to the program's text (the seventh form; the later family's looks); each row that meets fmt, with fmt's text TOLD by the authors' own Lean function (tested against real Go, not proved from fmt's source: count such statements apart). THE CARD IS WHAT COUNTS. Prove the row's statement (the work); the ties are given (YtnaokohffelklaaDoorTie.lean); close each card by the builder's one call (the guide's Derived/Test/ToyasCard.lean, 'card_holds'). Laid BY PROGRAM, IN A SANDBOX (cutbox-door.mjs). By AI agents, Wed Nov 11 2026. No macro, syntax, notation, axiom, sorry.
-/
import Derived.Test.YtnaokohffelklaaDoorRows
import GoSem.ClaimSeven
namespace Go.Proofs.YtnaokohffelklaaDoor
namespace Rows

/-- THE TIED CARD OF 'flightdecklaw30.AirspeedTrue'. -/
def airspeedTrueCard : Claim7 := { stood := { row := airspeedTrueRow, standIns := [], harness := (true, "79efc236c82446164038e71a438d3783432a9b5083184f87c34fa3e0f53990ca"), looks := false }, kinds := [], alts := [], laidByText := true, laidKinds := [.data, .data, .data], laidTests := true, laidLooks := .later }
def AirspeedTrueCardSaid : Prop := Claim7.holds Tryd.pinned (.plain (OpenSpec.ofChange airspeedTrueSpec)) airspeedTrueCard

/-- THE TIED CARD OF 'flightdecklaw30.AirspeedBack'. -/
def airspeedBackCard : Claim7 := { stood := { row := airspeedBackRow, standIns := [], harness := (true, "79efc236c82446164038e71a438d3783432a9b5083184f87c34fa3e0f53990ca"), looks := false }, kinds := [], alts := [], laidByText := true, laidKinds := [.data, .data, .data], laidTests := true, laidLooks := .later }
def AirspeedBackCardSaid : Prop := Claim7.holds Tryd.pinned (.plain (OpenSpec.ofChange airspeedBackSpec)) airspeedBackCard

/-- THE TIED CARD OF 'flightdecklaw30.AirspeedPair'. -/
def airspeedPairCard : Claim7 := { stood := { row := airspeedPairRow, standIns := [], harness := (true, "79efc236c82446164038e71a438d3783432a9b5083184f87c34fa3e0f53990ca"), looks := false }, kinds := [], alts := [], laidByText := true, laidKinds := [.data, .data, .data], laidTests := true, laidLooks := .later }
def AirspeedPairCardSaid : Prop := Claim7.holds Tryd.pinned (.plain (OpenSpec.ofChange airspeedPairSpec)) airspeedPairCard

/-- THE TIED CARD OF 'flightdecklaw30.AirspeedMach'. -/
def airspeedMachCard : Claim7 := { stood := { row := airspeedMachRow, standIns := [], harness := (true, "79efc236c82446164038e71a438d3783432a9b5083184f87c34fa3e0f53990ca"), looks := false }, kinds := [], alts := [], laidByText := true, laidKinds := [.data, .data, .data], laidTests := true, laidLooks := .later }
def AirspeedMachCardSaid : Prop := Claim7.holds Tryd.pinned (.plain (OpenSpec.ofChange airspeedMachSpec)) airspeedMachCard

/-- THE TIED CARD OF 'flightdecklaw30.AirspeedCrossover'. -/
def airspeedCrossoverCard : Claim7 := { stood := { row := airspeedCrossoverRow, standIns := [], harness := (true, "79efc236c82446164038e71a438d3783432a9b5083184f87c34fa3e0f53990ca"), looks := false }, kinds := [], alts := [], laidByText := true, laidKinds := [.data, .data, .data], laidTests := true, laidLooks := .later }
def AirspeedCrossoverCardSaid : Prop := Claim7.holds Tryd.pinned (.plain (OpenSpec.ofChange airspeedCrossoverSpec)) airspeedCrossoverCard

/-- THE TIED CARD OF 'flightdecklaw30.AirspeedRises'. -/
def airspeedRisesCard : Claim7 := { stood := { row := airspeedRisesRow, standIns := [], harness := (true, "79efc236c82446164038e71a438d3783432a9b5083184f87c34fa3e0f53990ca"), looks := false }, kinds := [], alts := [], laidByText := true, laidKinds := [.data, .data, .data], laidTests := true, laidLooks := .later }
def AirspeedRisesCardSaid : Prop := Claim7.holds Tryd.pinned (.plain (OpenSpec.ofChange airspeedRisesSpec)) airspeedRisesCard

/-- THE TIED CARD OF 'flightdecklaw30.AirspeedTexts'. -/
def airspeedTextsCard : Claim7 := { stood := { row := airspeedTextsRow, standIns := [], harness := (true, "79efc236c82446164038e71a438d3783432a9b5083184f87c34fa3e0f53990ca"), looks := false }, kinds := [], alts := [], laidByText := true, laidKinds := [.data, .data, .data], laidTests := true, laidLooks := .later }
def AirspeedTextsCardSaid : Prop := Claim7.holds Tryd.pinned (.plain (OpenSpec.ofChange airspeedTextsSpec)) airspeedTextsCard

/-- THE SECOND FORM's CARD OF 'flightdecklaw30.AirspeedTrue'. -/
def airspeedTrueUptoCard : Claim7 := { stood := { row := airspeedTrueUptoRow, standIns := [], harness := (true, "79efc236c82446164038e71a438d3783432a9b5083184f87c34fa3e0f53990ca"), looks := false }, kinds := [], alts := [], laidByText := true, laidKinds := [.data, .data, .data], laidTests := true, laidLooks := .later }
def AirspeedTrueUptoCardSaid : Prop := Claim7.holds Tryd.pinned (.plain (OpenSpec.upto airspeedTrueSpec)) airspeedTrueUptoCard

/-- THE SECOND FORM's CARD OF 'flightdecklaw30.AirspeedBack'. -/
def airspeedBackUptoCard : Claim7 := { stood := { row := airspeedBackUptoRow, standIns := [], harness := (true, "79efc236c82446164038e71a438d3783432a9b5083184f87c34fa3e0f53990ca"), looks := false }, kinds := [], alts := [], laidByText := true, laidKinds := [.data, .data, .data], laidTests := true, laidLooks := .later }
def AirspeedBackUptoCardSaid : Prop := Claim7.holds Tryd.pinned (.plain (OpenSpec.upto airspeedBackSpec)) airspeedBackUptoCard

/-- THE SECOND FORM's CARD OF 'flightdecklaw30.AirspeedPair'. -/
def airspeedPairUptoCard : Claim7 := { stood := { row := airspeedPairUptoRow, standIns := [], harness := (true, "79efc236c82446164038e71a438d3783432a9b5083184f87c34fa3e0f53990ca"), looks := false }, kinds := [], alts := [], laidByText := true, laidKinds := [.data, .data, .data], laidTests := true, laidLooks := .later }
def AirspeedPairUptoCardSaid : Prop := Claim7.holds Tryd.pinned (.plain (OpenSpec.upto airspeedPairSpec)) airspeedPairUptoCard

/-- THE SECOND FORM's CARD OF 'flightdecklaw30.AirspeedMach'. -/
def airspeedMachUptoCard : Claim7 := { stood := { row := airspeedMachUptoRow, standIns := [], harness := (true, "79efc236c82446164038e71a438d3783432a9b5083184f87c34fa3e0f53990ca"), looks := false }, kinds := [], alts := [], laidByText := true, laidKinds := [.data, .data, .data], laidTests := true, laidLooks := .later }
def AirspeedMachUptoCardSaid : Prop := Claim7.holds Tryd.pinned (.plain (OpenSpec.upto airspeedMachSpec)) airspeedMachUptoCard

/-- THE SECOND FORM's CARD OF 'flightdecklaw30.AirspeedCrossover'. -/
def airspeedCrossoverUptoCard : Claim7 := { stood := { row := airspeedCrossoverUptoRow, standIns := [], harness := (true, "79efc236c82446164038e71a438d3783432a9b5083184f87c34fa3e0f53990ca"), looks := false }, kinds := [], alts := [], laidByText := true, laidKinds := [.data, .data, .data], laidTests := true, laidLooks := .later }
def AirspeedCrossoverUptoCardSaid : Prop := Claim7.holds Tryd.pinned (.plain (OpenSpec.upto airspeedCrossoverSpec)) airspeedCrossoverUptoCard

/-- THE SECOND FORM's CARD OF 'flightdecklaw30.AirspeedRises'. -/
def airspeedRisesUptoCard : Claim7 := { stood := { row := airspeedRisesUptoRow, standIns := [], harness := (true, "79efc236c82446164038e71a438d3783432a9b5083184f87c34fa3e0f53990ca"), looks := false }, kinds := [], alts := [], laidByText := true, laidKinds := [.data, .data, .data], laidTests := true, laidLooks := .later }
def AirspeedRisesUptoCardSaid : Prop := Claim7.holds Tryd.pinned (.plain (OpenSpec.upto airspeedRisesSpec)) airspeedRisesUptoCard

/-- THE SECOND FORM's CARD OF 'flightdecklaw30.AirspeedTexts'. -/
def airspeedTextsUptoCard : Claim7 := { stood := { row := airspeedTextsUptoRow, standIns := [], harness := (true, "79efc236c82446164038e71a438d3783432a9b5083184f87c34fa3e0f53990ca"), looks := false }, kinds := [], alts := [], laidByText := true, laidKinds := [.data, .data, .data], laidTests := true, laidLooks := .later }
def AirspeedTextsUptoCardSaid : Prop := Claim7.holds Tryd.pinned (.plain (OpenSpec.upto airspeedTextsSpec)) airspeedTextsUptoCard
end Rows
end Go.Proofs.YtnaokohffelklaaDoor
