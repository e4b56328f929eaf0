/-
  DERIVED. GIVEN WITH THE SEED: THE CARDS: each row of YtajmjkliblippaaGreatDoorRows.lean that lists a variable, with what it lists TIED to the program's text (the seventh form; the later family's looks); each row that meets fmt, with fmt's text TOLD by the authors' own Lean function (tested against real Go, not proved from fmt's source: count such statements apart). THE CARD IS WHAT COUNTS. Prove the row's statement (the work); the ties are given (YtajmjkliblippaaGreatDoorTie.lean); close each card by the builder's one call (the guide's Derived/Test/ToyasCard.lean, 'card_holds'). Laid BY PROGRAM, IN A SANDBOX (cutbox-door.mjs). By AI agents, Wed Nov 11 2026. No macro, syntax, notation, axiom, sorry.
-/
import Derived.Test.YtajmjkliblippaaGreatDoorRows
import GoSem.ClaimSeven
namespace Go.Proofs.YtajmjkliblippaaGreatDoor
namespace Rows

/-- THE TIED CARD OF 'flightdecklaw46.NavigatorStarts'. -/
def navigatorStartsCard : Claim7 := { stood := { row := navigatorStartsRow, standIns := [], harness := (true, "783ed233f40671838a6233956d2029dd868e0999a1e89c4bc95f5129ac6dda16"), looks := false }, kinds := [], alts := [], laidByText := true, laidKinds := [.data, .data, .data], laidTests := true, laidLooks := .later }
def NavigatorStartsCardSaid : Prop := Claim7.holds Tryz.pinned (.plain (OpenSpec.ofChange navigatorStartsSpec)) navigatorStartsCard

/-- THE TIED CARD OF 'flightdecklaw46.NavigatorSteps'. -/
def navigatorStepsCard : Claim7 := { stood := { row := navigatorStepsRow, standIns := [], harness := (true, "783ed233f40671838a6233956d2029dd868e0999a1e89c4bc95f5129ac6dda16"), looks := false }, kinds := [], alts := [], laidByText := true, laidKinds := [.data, .data, .data], laidTests := true, laidLooks := .later }
def NavigatorStepsCardSaid : Prop := Claim7.holds Tryz.pinned (.plain (OpenSpec.ofChange navigatorStepsSpec)) navigatorStepsCard

/-- THE TIED CARD OF 'flightdecklaw46.NavigatorCoasts'. -/
def navigatorCoastsCard : Claim7 := { stood := { row := navigatorCoastsRow, standIns := [], harness := (true, "783ed233f40671838a6233956d2029dd868e0999a1e89c4bc95f5129ac6dda16"), looks := false }, kinds := [], alts := [], laidByText := true, laidKinds := [.data, .data, .data], laidTests := true, laidLooks := .later }
def NavigatorCoastsCardSaid : Prop := Claim7.holds Tryz.pinned (.plain (OpenSpec.ofChange navigatorCoastsSpec)) navigatorCoastsCard

/-- THE TIED CARD OF 'flightdecklaw46.NavigatorIgnores'. -/
def navigatorIgnoresCard : Claim7 := { stood := { row := navigatorIgnoresRow, standIns := [], harness := (true, "783ed233f40671838a6233956d2029dd868e0999a1e89c4bc95f5129ac6dda16"), looks := false }, kinds := [], alts := [], laidByText := true, laidKinds := [.data, .data, .data], laidTests := true, laidLooks := .later }
def NavigatorIgnoresCardSaid : Prop := Claim7.holds Tryz.pinned (.plain (OpenSpec.ofChange navigatorIgnoresSpec)) navigatorIgnoresCard

/-- THE TIED CARD OF 'flightdecklaw46.NavigatorNarrows'. -/
def navigatorNarrowsCard : Claim7 := { stood := { row := navigatorNarrowsRow, standIns := [], harness := (true, "783ed233f40671838a6233956d2029dd868e0999a1e89c4bc95f5129ac6dda16"), looks := false }, kinds := [], alts := [], laidByText := true, laidKinds := [.data, .data, .data], laidTests := true, laidLooks := .later }
def NavigatorNarrowsCardSaid : Prop := Claim7.holds Tryz.pinned (.plain (OpenSpec.ofChange navigatorNarrowsSpec)) navigatorNarrowsCard

/-- THE TIED CARD OF 'flightdecklaw46.NavigatorSafe'. -/
def navigatorSafeCard : Claim7 := { stood := { row := navigatorSafeRow, standIns := [], harness := (true, "783ed233f40671838a6233956d2029dd868e0999a1e89c4bc95f5129ac6dda16"), looks := false }, kinds := [], alts := [], laidByText := true, laidKinds := [.data, .data, .data], laidTests := true, laidLooks := .later }
def NavigatorSafeCardSaid : Prop := Claim7.holds Tryz.pinned (.plain (OpenSpec.ofChange navigatorSafeSpec)) navigatorSafeCard

/-- THE TIED CARD OF 'flightdecklaw46.NavigatorTexts'. -/
def navigatorTextsCard : Claim7 := { stood := { row := navigatorTextsRow, standIns := [], harness := (true, "783ed233f40671838a6233956d2029dd868e0999a1e89c4bc95f5129ac6dda16"), looks := false }, kinds := [], alts := [], laidByText := true, laidKinds := [.data, .data, .data, .data, .pinned], laidTests := true, laidLooks := .later }
def NavigatorTextsCardSaid : Prop := Claim7.holds Tryz.pinned (.plain (OpenSpec.ofChange navigatorTextsSpec)) navigatorTextsCard

/-- THE TIED CARD OF 'flightdecklaw46.NavigatorParses'. -/
def navigatorParsesCard : Claim7 := { stood := { row := navigatorParsesRow, standIns := [], harness := (true, "783ed233f40671838a6233956d2029dd868e0999a1e89c4bc95f5129ac6dda16"), looks := false }, kinds := [], alts := [], laidByText := true, laidKinds := [.data, .data, .data, .data, .pinned], laidTests := true, laidLooks := .later }
def NavigatorParsesCardSaid : Prop := Claim7.holds Tryz.pinned (.plain (OpenSpec.ofChange navigatorParsesSpec)) navigatorParsesCard

/-- THE SECOND FORM's CARD OF 'flightdecklaw46.NavigatorStarts'. -/
def navigatorStartsUptoCard : Claim7 := { stood := { row := navigatorStartsUptoRow, standIns := [], harness := (true, "783ed233f40671838a6233956d2029dd868e0999a1e89c4bc95f5129ac6dda16"), looks := false }, kinds := [], alts := [], laidByText := true, laidKinds := [.data, .data, .data], laidTests := true, laidLooks := .later }
def NavigatorStartsUptoCardSaid : Prop := Claim7.holds Tryz.pinned (.plain (OpenSpec.upto navigatorStartsSpec)) navigatorStartsUptoCard

/-- THE SECOND FORM's CARD OF 'flightdecklaw46.NavigatorSteps'. -/
def navigatorStepsUptoCard : Claim7 := { stood := { row := navigatorStepsUptoRow, standIns := [], harness := (true, "783ed233f40671838a6233956d2029dd868e0999a1e89c4bc95f5129ac6dda16"), looks := false }, kinds := [], alts := [], laidByText := true, laidKinds := [.data, .data, .data], laidTests := true, laidLooks := .later }
def NavigatorStepsUptoCardSaid : Prop := Claim7.holds Tryz.pinned (.plain (OpenSpec.upto navigatorStepsSpec)) navigatorStepsUptoCard

/-- THE SECOND FORM's CARD OF 'flightdecklaw46.NavigatorCoasts'. -/
def navigatorCoastsUptoCard : Claim7 := { stood := { row := navigatorCoastsUptoRow, standIns := [], harness := (true, "783ed233f40671838a6233956d2029dd868e0999a1e89c4bc95f5129ac6dda16"), looks := false }, kinds := [], alts := [], laidByText := true, laidKinds := [.data, .data, .data], laidTests := true, laidLooks := .later }
def NavigatorCoastsUptoCardSaid : Prop := Claim7.holds Tryz.pinned (.plain (OpenSpec.upto navigatorCoastsSpec)) navigatorCoastsUptoCard

/-- THE SECOND FORM's CARD OF 'flightdecklaw46.NavigatorIgnores'. -/
def navigatorIgnoresUptoCard : Claim7 := { stood := { row := navigatorIgnoresUptoRow, standIns := [], harness := (true, "783ed233f40671838a6233956d2029dd868e0999a1e89c4bc95f5129ac6dda16"), looks := false }, kinds := [], alts := [], laidByText := true, laidKinds := [.data, .data, .data], laidTests := true, laidLooks := .later }
def NavigatorIgnoresUptoCardSaid : Prop := Claim7.holds Tryz.pinned (.plain (OpenSpec.upto navigatorIgnoresSpec)) navigatorIgnoresUptoCard

/-- THE SECOND FORM's CARD OF 'flightdecklaw46.NavigatorNarrows'. -/
def navigatorNarrowsUptoCard : Claim7 := { stood := { row := navigatorNarrowsUptoRow, standIns := [], harness := (true, "783ed233f40671838a6233956d2029dd868e0999a1e89c4bc95f5129ac6dda16"), looks := false }, kinds := [], alts := [], laidByText := true, laidKinds := [.data, .data, .data], laidTests := true, laidLooks := .later }
def NavigatorNarrowsUptoCardSaid : Prop := Claim7.holds Tryz.pinned (.plain (OpenSpec.upto navigatorNarrowsSpec)) navigatorNarrowsUptoCard

/-- THE SECOND FORM's CARD OF 'flightdecklaw46.NavigatorSafe'. -/
def navigatorSafeUptoCard : Claim7 := { stood := { row := navigatorSafeUptoRow, standIns := [], harness := (true, "783ed233f40671838a6233956d2029dd868e0999a1e89c4bc95f5129ac6dda16"), looks := false }, kinds := [], alts := [], laidByText := true, laidKinds := [.data, .data, .data], laidTests := true, laidLooks := .later }
def NavigatorSafeUptoCardSaid : Prop := Claim7.holds Tryz.pinned (.plain (OpenSpec.upto navigatorSafeSpec)) navigatorSafeUptoCard

/-- THE SECOND FORM's CARD OF 'flightdecklaw46.NavigatorTexts'. -/
def navigatorTextsUptoCard : Claim7 := { stood := { row := navigatorTextsUptoRow, standIns := [], harness := (true, "783ed233f40671838a6233956d2029dd868e0999a1e89c4bc95f5129ac6dda16"), looks := false }, kinds := [], alts := [], laidByText := true, laidKinds := [.data, .data, .data, .data, .pinned], laidTests := true, laidLooks := .later }
def NavigatorTextsUptoCardSaid : Prop := Claim7.holds Tryz.pinned (.plain (OpenSpec.upto navigatorTextsSpec)) navigatorTextsUptoCard

/-- THE SECOND FORM's CARD OF 'flightdecklaw46.NavigatorParses'. -/
def navigatorParsesUptoCard : Claim7 := { stood := { row := navigatorParsesUptoRow, standIns := [], harness := (true, "783ed233f40671838a6233956d2029dd868e0999a1e89c4bc95f5129ac6dda16"), looks := false }, kinds := [], alts := [], laidByText := true, laidKinds := [.data, .data, .data, .data, .pinned], laidTests := true, laidLooks := .later }
def NavigatorParsesUptoCardSaid : Prop := Claim7.holds Tryz.pinned (.plain (OpenSpec.upto navigatorParsesSpec)) navigatorParsesUptoCard
end Rows
end Go.Proofs.YtajmjkliblippaaGreatDoor
