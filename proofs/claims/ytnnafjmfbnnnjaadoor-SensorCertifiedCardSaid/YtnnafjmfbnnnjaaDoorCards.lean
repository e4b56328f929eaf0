/-
  DERIVED. GIVEN WITH THE SEED: THE CARDS: each row of YtnnafjmfbnnnjaaDoorRows.lean that lists a variable, with what it lists TIED to the program's text (the seventh form; the later family's looks); each row that meets fmt, with fmt's text TOLD by the authors' own Lean function (tested against real Go, not proved from fmt's source: count such statements apart). THE CARD IS WHAT COUNTS. Prove the row's statement (the work); the ties are given (YtnnafjmfbnnnjaaDoorTie.lean); close each card by the builder's one call (the guide's Derived/Test/ToyasCard.lean, 'card_holds'). Laid BY PROGRAM, IN A SANDBOX (cutbox-door.mjs). By AI agents, Wed Nov 11 2026. No macro, syntax, notation, axiom, sorry.
-/
import Derived.Test.YtnnafjmfbnnnjaaDoorRows
import GoSem.ClaimSeven
namespace Go.Proofs.YtnnafjmfbnnnjaaDoor
namespace Rows

/-- THE TIED CARD OF 'flightdecklaw41.SensorChecks'. -/
def sensorChecksCard : Claim7 := { stood := { row := sensorChecksRow, standIns := [], harness := (true, "591ca8035a01d86580589387f4dea75162c6b76cff3e83daa1768ee92f6e3346"), looks := false }, kinds := [], alts := [], laidByText := true, laidKinds := [.data, .data, .data], laidTests := true, laidLooks := .later }
def SensorChecksCardSaid : Prop := Claim7.holds Tryd.pinned (.plain (OpenSpec.ofChange sensorChecksSpec)) sensorChecksCard

/-- THE TIED CARD OF 'flightdecklaw41.SensorSmall'. -/
def sensorSmallCard : Claim7 := { stood := { row := sensorSmallRow, standIns := [], harness := (true, "591ca8035a01d86580589387f4dea75162c6b76cff3e83daa1768ee92f6e3346"), looks := false }, kinds := [], alts := [], laidByText := true, laidKinds := [.data, .data, .data], laidTests := true, laidLooks := .later }
def SensorSmallCardSaid : Prop := Claim7.holds Tryd.pinned (.plain (OpenSpec.ofChange sensorSmallSpec)) sensorSmallCard

/-- THE TIED CARD OF 'flightdecklaw41.SensorBoxes'. -/
def sensorBoxesCard : Claim7 := { stood := { row := sensorBoxesRow, standIns := [], harness := (true, "591ca8035a01d86580589387f4dea75162c6b76cff3e83daa1768ee92f6e3346"), looks := false }, kinds := [], alts := [], laidByText := true, laidKinds := [.data, .data, .data], laidTests := true, laidLooks := .later }
def SensorBoxesCardSaid : Prop := Claim7.holds Tryd.pinned (.plain (OpenSpec.ofChange sensorBoxesSpec)) sensorBoxesCard

/-- THE TIED CARD OF 'flightdecklaw41.SensorCertified'. -/
def sensorCertifiedCard : Claim7 := { stood := { row := sensorCertifiedRow, standIns := [], harness := (true, "591ca8035a01d86580589387f4dea75162c6b76cff3e83daa1768ee92f6e3346"), looks := false }, kinds := [], alts := [], laidByText := true, laidKinds := [.data, .data, .data], laidTests := true, laidLooks := .later }
def SensorCertifiedCardSaid : Prop := Claim7.holds Tryd.pinned (.plain (OpenSpec.ofChange sensorCertifiedSpec)) sensorCertifiedCard

/-- THE TIED CARD OF 'flightdecklaw41.SensorRows'. -/
def sensorRowsCard : Claim7 := { stood := { row := sensorRowsRow, standIns := [], harness := (true, "591ca8035a01d86580589387f4dea75162c6b76cff3e83daa1768ee92f6e3346"), looks := false }, kinds := [], alts := [], laidByText := true, laidKinds := [.data, .data, .data], laidTests := true, laidLooks := .later }
def SensorRowsCardSaid : Prop := Claim7.holds Tryd.pinned (.plain (OpenSpec.ofChange sensorRowsSpec)) sensorRowsCard

/-- THE TIED CARD OF 'flightdecklaw41.SensorAges'. -/
def sensorAgesCard : Claim7 := { stood := { row := sensorAgesRow, standIns := [], harness := (true, "591ca8035a01d86580589387f4dea75162c6b76cff3e83daa1768ee92f6e3346"), looks := false }, kinds := [], alts := [], laidByText := true, laidKinds := [.data, .data, .data], laidTests := true, laidLooks := .later }
def SensorAgesCardSaid : Prop := Claim7.holds Tryd.pinned (.plain (OpenSpec.ofChange sensorAgesSpec)) sensorAgesCard

/-- THE TIED CARD OF 'flightdecklaw41.SensorMoves'. -/
def sensorMovesCard : Claim7 := { stood := { row := sensorMovesRow, standIns := [], harness := (true, "591ca8035a01d86580589387f4dea75162c6b76cff3e83daa1768ee92f6e3346"), looks := false }, kinds := [], alts := [], laidByText := true, laidKinds := [.data, .data, .data], laidTests := true, laidLooks := .later }
def SensorMovesCardSaid : Prop := Claim7.holds Tryd.pinned (.plain (OpenSpec.ofChange sensorMovesSpec)) sensorMovesCard

/-- THE TIED CARD OF 'flightdecklaw41.SensorTexts'. -/
def sensorTextsCard : Claim7 := { stood := { row := sensorTextsRow, standIns := [], harness := (true, "591ca8035a01d86580589387f4dea75162c6b76cff3e83daa1768ee92f6e3346"), looks := false }, kinds := [], alts := [], laidByText := true, laidKinds := [.data, .data, .data, .data, .pinned], laidTests := true, laidLooks := .later }
def SensorTextsCardSaid : Prop := Claim7.holds Tryd.pinned (.plain (OpenSpec.ofChange sensorTextsSpec)) sensorTextsCard

/-- THE TIED CARD OF 'flightdecklaw41.SensorParses'. -/
def sensorParsesCard : Claim7 := { stood := { row := sensorParsesRow, standIns := [], harness := (true, "591ca8035a01d86580589387f4dea75162c6b76cff3e83daa1768ee92f6e3346"), looks := false }, kinds := [], alts := [], laidByText := true, laidKinds := [.data, .data, .data, .data, .pinned], laidTests := true, laidLooks := .later }
def SensorParsesCardSaid : Prop := Claim7.holds Tryd.pinned (.plain (OpenSpec.ofChange sensorParsesSpec)) sensorParsesCard

/-- THE SECOND FORM's CARD OF 'flightdecklaw41.SensorChecks'. -/
def sensorChecksUptoCard : Claim7 := { stood := { row := sensorChecksUptoRow, standIns := [], harness := (true, "591ca8035a01d86580589387f4dea75162c6b76cff3e83daa1768ee92f6e3346"), looks := false }, kinds := [], alts := [], laidByText := true, laidKinds := [.data, .data, .data], laidTests := true, laidLooks := .later }
def SensorChecksUptoCardSaid : Prop := Claim7.holds Tryd.pinned (.plain (OpenSpec.upto sensorChecksSpec)) sensorChecksUptoCard

/-- THE SECOND FORM's CARD OF 'flightdecklaw41.SensorSmall'. -/
def sensorSmallUptoCard : Claim7 := { stood := { row := sensorSmallUptoRow, standIns := [], harness := (true, "591ca8035a01d86580589387f4dea75162c6b76cff3e83daa1768ee92f6e3346"), looks := false }, kinds := [], alts := [], laidByText := true, laidKinds := [.data, .data, .data], laidTests := true, laidLooks := .later }
def SensorSmallUptoCardSaid : Prop := Claim7.holds Tryd.pinned (.plain (OpenSpec.upto sensorSmallSpec)) sensorSmallUptoCard

/-- THE SECOND FORM's CARD OF 'flightdecklaw41.SensorBoxes'. -/
def sensorBoxesUptoCard : Claim7 := { stood := { row := sensorBoxesUptoRow, standIns := [], harness := (true, "591ca8035a01d86580589387f4dea75162c6b76cff3e83daa1768ee92f6e3346"), looks := false }, kinds := [], alts := [], laidByText := true, laidKinds := [.data, .data, .data], laidTests := true, laidLooks := .later }
def SensorBoxesUptoCardSaid : Prop := Claim7.holds Tryd.pinned (.plain (OpenSpec.upto sensorBoxesSpec)) sensorBoxesUptoCard

/-- THE SECOND FORM's CARD OF 'flightdecklaw41.SensorCertified'. -/
def sensorCertifiedUptoCard : Claim7 := { stood := { row := sensorCertifiedUptoRow, standIns := [], harness := (true, "591ca8035a01d86580589387f4dea75162c6b76cff3e83daa1768ee92f6e3346"), looks := false }, kinds := [], alts := [], laidByText := true, laidKinds := [.data, .data, .data], laidTests := true, laidLooks := .later }
def SensorCertifiedUptoCardSaid : Prop := Claim7.holds Tryd.pinned (.plain (OpenSpec.upto sensorCertifiedSpec)) sensorCertifiedUptoCard

/-- THE SECOND FORM's CARD OF 'flightdecklaw41.SensorRows'. -/
def sensorRowsUptoCard : Claim7 := { stood := { row := sensorRowsUptoRow, standIns := [], harness := (true, "591ca8035a01d86580589387f4dea75162c6b76cff3e83daa1768ee92f6e3346"), looks := false }, kinds := [], alts := [], laidByText := true, laidKinds := [.data, .data, .data], laidTests := true, laidLooks := .later }
def SensorRowsUptoCardSaid : Prop := Claim7.holds Tryd.pinned (.plain (OpenSpec.upto sensorRowsSpec)) sensorRowsUptoCard

/-- THE SECOND FORM's CARD OF 'flightdecklaw41.SensorAges'. -/
def sensorAgesUptoCard : Claim7 := { stood := { row := sensorAgesUptoRow, standIns := [], harness := (true, "591ca8035a01d86580589387f4dea75162c6b76cff3e83daa1768ee92f6e3346"), looks := false }, kinds := [], alts := [], laidByText := true, laidKinds := [.data, .data, .data], laidTests := true, laidLooks := .later }
def SensorAgesUptoCardSaid : Prop := Claim7.holds Tryd.pinned (.plain (OpenSpec.upto sensorAgesSpec)) sensorAgesUptoCard

/-- THE SECOND FORM's CARD OF 'flightdecklaw41.SensorMoves'. -/
def sensorMovesUptoCard : Claim7 := { stood := { row := sensorMovesUptoRow, standIns := [], harness := (true, "591ca8035a01d86580589387f4dea75162c6b76cff3e83daa1768ee92f6e3346"), looks := false }, kinds := [], alts := [], laidByText := true, laidKinds := [.data, .data, .data], laidTests := true, laidLooks := .later }
def SensorMovesUptoCardSaid : Prop := Claim7.holds Tryd.pinned (.plain (OpenSpec.upto sensorMovesSpec)) sensorMovesUptoCard

/-- THE SECOND FORM's CARD OF 'flightdecklaw41.SensorTexts'. -/
def sensorTextsUptoCard : Claim7 := { stood := { row := sensorTextsUptoRow, standIns := [], harness := (true, "591ca8035a01d86580589387f4dea75162c6b76cff3e83daa1768ee92f6e3346"), looks := false }, kinds := [], alts := [], laidByText := true, laidKinds := [.data, .data, .data, .data, .pinned], laidTests := true, laidLooks := .later }
def SensorTextsUptoCardSaid : Prop := Claim7.holds Tryd.pinned (.plain (OpenSpec.upto sensorTextsSpec)) sensorTextsUptoCard

/-- THE SECOND FORM's CARD OF 'flightdecklaw41.SensorParses'. -/
def sensorParsesUptoCard : Claim7 := { stood := { row := sensorParsesUptoRow, standIns := [], harness := (true, "591ca8035a01d86580589387f4dea75162c6b76cff3e83daa1768ee92f6e3346"), looks := false }, kinds := [], alts := [], laidByText := true, laidKinds := [.data, .data, .data, .data, .pinned], laidTests := true, laidLooks := .later }
def SensorParsesUptoCardSaid : Prop := Claim7.holds Tryd.pinned (.plain (OpenSpec.upto sensorParsesSpec)) sensorParsesUptoCard
end Rows
end Go.Proofs.YtnnafjmfbnnnjaaDoor
