/-
  DERIVED. GIVEN WITH THE SEED: THE CARDS: each row of YtocmcdejkoejhaaDoorRows.lean that lists a variable, with what it lists TIED to the program's text (the seventh form; the later family's looks); each row that meets fmt, with fmt's text TOLD by the authors' own Lean function (tested against real Go, not proved from fmt's source: count such statements apart). THE CARD IS WHAT COUNTS. Prove the row's statement (the work); the ties are given (YtocmcdejkoejhaaDoorTie.lean); close each card by the builder's one call (the guide's Derived/Test/ToyasCard.lean, 'card_holds'). Laid BY PROGRAM, IN A SANDBOX (cutbox-door.mjs). By AI agents, Wed Nov 11 2026. No macro, syntax, notation, axiom, sorry.
-/
import Derived.Test.YtocmcdejkoejhaaDoorRows
import GoSem.ClaimSeven
namespace Go.Proofs.YtocmcdejkoejhaaDoor
namespace Rows

/-- THE TIED CARD OF 'scorebooklaw48.CalendarDays'. -/
def calendarDaysCard : Claim7 := { stood := { row := calendarDaysRow, standIns := [], harness := (true, "f7c4688767acf091acac9503115f1c5d38b5c7a7b05a5655e3da9f06cf0baa1d"), looks := false }, kinds := [], alts := [], laidByText := true, laidKinds := [.data, .data, .data], laidTests := true, laidLooks := .later }
def CalendarDaysCardSaid : Prop := Claim7.holds Tryd.pinned (.plain (OpenSpec.ofChange calendarDaysSpec)) calendarDaysCard

/-- THE TIED CARD OF 'scorebooklaw48.CalendarDates'. -/
def calendarDatesCard : Claim7 := { stood := { row := calendarDatesRow, standIns := [], harness := (true, "f7c4688767acf091acac9503115f1c5d38b5c7a7b05a5655e3da9f06cf0baa1d"), looks := false }, kinds := [], alts := [], laidByText := true, laidKinds := [.data, .data, .data], laidTests := true, laidLooks := .later }
def CalendarDatesCardSaid : Prop := Claim7.holds Tryd.pinned (.plain (OpenSpec.ofChange calendarDatesSpec)) calendarDatesCard

/-- THE TIED CARD OF 'scorebooklaw48.CalendarTexts'. -/
def calendarTextsCard : Claim7 := { stood := { row := calendarTextsRow, standIns := [], harness := (true, "f7c4688767acf091acac9503115f1c5d38b5c7a7b05a5655e3da9f06cf0baa1d"), looks := false }, kinds := [], alts := [], laidByText := true, laidKinds := [.data, .data, .data], laidTests := true, laidLooks := .later }
def CalendarTextsCardSaid : Prop := Claim7.holds Tryd.pinned (.plain (OpenSpec.ofChange calendarTextsSpec)) calendarTextsCard

/-- THE TIED CARD OF 'scorebooklaw48.CalendarRests'. -/
def calendarRestsCard : Claim7 := { stood := { row := calendarRestsRow, standIns := [], harness := (true, "f7c4688767acf091acac9503115f1c5d38b5c7a7b05a5655e3da9f06cf0baa1d"), looks := false }, kinds := [], alts := [], laidByText := true, laidKinds := [.data, .data, .data], laidTests := true, laidLooks := .later }
def CalendarRestsCardSaid : Prop := Claim7.holds Tryd.pinned (.plain (OpenSpec.ofChange calendarRestsSpec)) calendarRestsCard

/-- THE TIED CARD OF 'scorebooklaw48.CalendarTravel'. -/
def calendarTravelCard : Claim7 := { stood := { row := calendarTravelRow, standIns := [], harness := (true, "f7c4688767acf091acac9503115f1c5d38b5c7a7b05a5655e3da9f06cf0baa1d"), looks := false }, kinds := [], alts := [], laidByText := true, laidKinds := [.data, .data, .data], laidTests := true, laidLooks := .later }
def CalendarTravelCardSaid : Prop := Claim7.holds Tryd.pinned (.plain (OpenSpec.ofChange calendarTravelSpec)) calendarTravelCard

/-- THE TIED CARD OF 'scorebooklaw48.CalendarShortens'. -/
def calendarShortensCard : Claim7 := { stood := { row := calendarShortensRow, standIns := [], harness := (true, "f7c4688767acf091acac9503115f1c5d38b5c7a7b05a5655e3da9f06cf0baa1d"), looks := false }, kinds := [], alts := [], laidByText := true, laidKinds := [.data, .data, .data], laidTests := true, laidLooks := .later }
def CalendarShortensCardSaid : Prop := Claim7.holds Tryd.pinned (.plain (OpenSpec.ofChange calendarShortensSpec)) calendarShortensCard

/-- THE SECOND FORM's CARD OF 'scorebooklaw48.CalendarDays'. -/
def calendarDaysUptoCard : Claim7 := { stood := { row := calendarDaysUptoRow, standIns := [], harness := (true, "f7c4688767acf091acac9503115f1c5d38b5c7a7b05a5655e3da9f06cf0baa1d"), looks := false }, kinds := [], alts := [], laidByText := true, laidKinds := [.data, .data, .data], laidTests := true, laidLooks := .later }
def CalendarDaysUptoCardSaid : Prop := Claim7.holds Tryd.pinned (.plain (OpenSpec.upto calendarDaysSpec)) calendarDaysUptoCard

/-- THE SECOND FORM's CARD OF 'scorebooklaw48.CalendarDates'. -/
def calendarDatesUptoCard : Claim7 := { stood := { row := calendarDatesUptoRow, standIns := [], harness := (true, "f7c4688767acf091acac9503115f1c5d38b5c7a7b05a5655e3da9f06cf0baa1d"), looks := false }, kinds := [], alts := [], laidByText := true, laidKinds := [.data, .data, .data], laidTests := true, laidLooks := .later }
def CalendarDatesUptoCardSaid : Prop := Claim7.holds Tryd.pinned (.plain (OpenSpec.upto calendarDatesSpec)) calendarDatesUptoCard

/-- THE SECOND FORM's CARD OF 'scorebooklaw48.CalendarTexts'. -/
def calendarTextsUptoCard : Claim7 := { stood := { row := calendarTextsUptoRow, standIns := [], harness := (true, "f7c4688767acf091acac9503115f1c5d38b5c7a7b05a5655e3da9f06cf0baa1d"), looks := false }, kinds := [], alts := [], laidByText := true, laidKinds := [.data, .data, .data], laidTests := true, laidLooks := .later }
def CalendarTextsUptoCardSaid : Prop := Claim7.holds Tryd.pinned (.plain (OpenSpec.upto calendarTextsSpec)) calendarTextsUptoCard

/-- THE SECOND FORM's CARD OF 'scorebooklaw48.CalendarRests'. -/
def calendarRestsUptoCard : Claim7 := { stood := { row := calendarRestsUptoRow, standIns := [], harness := (true, "f7c4688767acf091acac9503115f1c5d38b5c7a7b05a5655e3da9f06cf0baa1d"), looks := false }, kinds := [], alts := [], laidByText := true, laidKinds := [.data, .data, .data], laidTests := true, laidLooks := .later }
def CalendarRestsUptoCardSaid : Prop := Claim7.holds Tryd.pinned (.plain (OpenSpec.upto calendarRestsSpec)) calendarRestsUptoCard

/-- THE SECOND FORM's CARD OF 'scorebooklaw48.CalendarTravel'. -/
def calendarTravelUptoCard : Claim7 := { stood := { row := calendarTravelUptoRow, standIns := [], harness := (true, "f7c4688767acf091acac9503115f1c5d38b5c7a7b05a5655e3da9f06cf0baa1d"), looks := false }, kinds := [], alts := [], laidByText := true, laidKinds := [.data, .data, .data], laidTests := true, laidLooks := .later }
def CalendarTravelUptoCardSaid : Prop := Claim7.holds Tryd.pinned (.plain (OpenSpec.upto calendarTravelSpec)) calendarTravelUptoCard

/-- THE SECOND FORM's CARD OF 'scorebooklaw48.CalendarShortens'. -/
def calendarShortensUptoCard : Claim7 := { stood := { row := calendarShortensUptoRow, standIns := [], harness := (true, "f7c4688767acf091acac9503115f1c5d38b5c7a7b05a5655e3da9f06cf0baa1d"), looks := false }, kinds := [], alts := [], laidByText := true, laidKinds := [.data, .data, .data], laidTests := true, laidLooks := .later }
def CalendarShortensUptoCardSaid : Prop := Claim7.holds Tryd.pinned (.plain (OpenSpec.upto calendarShortensSpec)) calendarShortensUptoCard
end Rows
end Go.Proofs.YtocmcdejkoejhaaDoor
