/-
  DERIVED. GIVEN WITH THE SEED: THE CARDS: each row of YtfnapmdedmbdbaaDoorRows.lean that lists a variable, with what it lists TIED to the program's text (the seventh form; the later family's looks); each row that meets fmt, with fmt's text TOLD by the authors' own Lean function (tested against real Go, not proved from fmt's source: count such statements apart). THE CARD IS WHAT COUNTS. Prove the row's statement (the work); the ties are given (YtfnapmdedmbdbaaDoorTie.lean); close each card by the builder's one call (the guide's Derived/Test/ToyasCard.lean, 'card_holds'). Laid BY PROGRAM, IN A SANDBOX (cutbox-door.mjs). By AI agents, Wed Nov 11 2026. No macro, syntax, notation, axiom, sorry.
-/
import Derived.Test.YtfnapmdedmbdbaaDoorRows
import GoSem.ClaimSeven
namespace Go.Proofs.YtfnapmdedmbdbaaDoor
namespace Rows

/-- THE TIED CARD OF 'scorebooklaw51.PointsCompares'. -/
def pointsComparesCard : Claim7 := { stood := { row := pointsComparesRow, standIns := [], harness := (true, "30ca8dafd1132894d3827c3a83ab2b4681a0c4dd19686dabbba2eaa9bbe71a2a"), looks := false }, kinds := [], alts := [], laidByText := true, laidKinds := [.data, .data, .data], laidTests := true, laidLooks := .later }
def PointsComparesCardSaid : Prop := Claim7.holds Tryd.pinned (.plain (OpenSpec.ofChange pointsComparesSpec)) pointsComparesCard

/-- THE TIED CARD OF 'scorebooklaw51.PointsOrders'. -/
def pointsOrdersCard : Claim7 := { stood := { row := pointsOrdersRow, standIns := [], harness := (true, "30ca8dafd1132894d3827c3a83ab2b4681a0c4dd19686dabbba2eaa9bbe71a2a"), looks := false }, kinds := [], alts := [], laidByText := true, laidKinds := [.data, .data, .data], laidTests := true, laidLooks := .later }
def PointsOrdersCardSaid : Prop := Claim7.holds Tryd.pinned (.plain (OpenSpec.ofChange pointsOrdersSpec)) pointsOrdersCard

/-- THE TIED CARD OF 'scorebooklaw51.PointsAny'. -/
def pointsAnyCard : Claim7 := { stood := { row := pointsAnyRow, standIns := [], harness := (true, "30ca8dafd1132894d3827c3a83ab2b4681a0c4dd19686dabbba2eaa9bbe71a2a"), looks := false }, kinds := [], alts := [], laidByText := true, laidKinds := [.data, .data, .data], laidTests := true, laidLooks := .later }
def PointsAnyCardSaid : Prop := Claim7.holds Tryd.pinned (.plain (OpenSpec.ofChange pointsAnySpec)) pointsAnyCard

/-- THE TIED CARD OF 'scorebooklaw51.PointsRates'. -/
def pointsRatesCard : Claim7 := { stood := { row := pointsRatesRow, standIns := [], harness := (true, "30ca8dafd1132894d3827c3a83ab2b4681a0c4dd19686dabbba2eaa9bbe71a2a"), looks := false }, kinds := [], alts := [], laidByText := true, laidKinds := [.data, .data, .data], laidTests := true, laidLooks := .later }
def PointsRatesCardSaid : Prop := Claim7.holds Tryd.pinned (.plain (OpenSpec.ofChange pointsRatesSpec)) pointsRatesCard

/-- THE TIED CARD OF 'scorebooklaw51.PointsTables'. -/
def pointsTablesCard : Claim7 := { stood := { row := pointsTablesRow, standIns := [], harness := (true, "30ca8dafd1132894d3827c3a83ab2b4681a0c4dd19686dabbba2eaa9bbe71a2a"), looks := false }, kinds := [], alts := [], laidByText := true, laidKinds := [.data, .data, .data], laidTests := true, laidLooks := .later }
def PointsTablesCardSaid : Prop := Claim7.holds Tryd.pinned (.plain (OpenSpec.ofChange pointsTablesSpec)) pointsTablesCard

/-- THE TIED CARD OF 'scorebooklaw51.PointsSums'. -/
def pointsSumsCard : Claim7 := { stood := { row := pointsSumsRow, standIns := [], harness := (true, "30ca8dafd1132894d3827c3a83ab2b4681a0c4dd19686dabbba2eaa9bbe71a2a"), looks := false }, kinds := [], alts := [], laidByText := true, laidKinds := [.data, .data, .data], laidTests := true, laidLooks := .later }
def PointsSumsCardSaid : Prop := Claim7.holds Tryd.pinned (.plain (OpenSpec.ofChange pointsSumsSpec)) pointsSumsCard

/-- THE TIED CARD OF 'scorebooklaw51.PointsTexts'. -/
def pointsTextsCard : Claim7 := { stood := { row := pointsTextsRow, standIns := [], harness := (true, "30ca8dafd1132894d3827c3a83ab2b4681a0c4dd19686dabbba2eaa9bbe71a2a"), looks := false }, kinds := [], alts := [], laidByText := true, laidKinds := [.data, .data, .data], laidTests := true, laidLooks := .later }
def PointsTextsCardSaid : Prop := Claim7.holds Tryd.pinned (.plain (OpenSpec.ofChange pointsTextsSpec)) pointsTextsCard

/-- THE SECOND FORM's CARD OF 'scorebooklaw51.PointsCompares'. -/
def pointsComparesUptoCard : Claim7 := { stood := { row := pointsComparesUptoRow, standIns := [], harness := (true, "30ca8dafd1132894d3827c3a83ab2b4681a0c4dd19686dabbba2eaa9bbe71a2a"), looks := false }, kinds := [], alts := [], laidByText := true, laidKinds := [.data, .data, .data], laidTests := true, laidLooks := .later }
def PointsComparesUptoCardSaid : Prop := Claim7.holds Tryd.pinned (.plain (OpenSpec.upto pointsComparesSpec)) pointsComparesUptoCard

/-- THE SECOND FORM's CARD OF 'scorebooklaw51.PointsOrders'. -/
def pointsOrdersUptoCard : Claim7 := { stood := { row := pointsOrdersUptoRow, standIns := [], harness := (true, "30ca8dafd1132894d3827c3a83ab2b4681a0c4dd19686dabbba2eaa9bbe71a2a"), looks := false }, kinds := [], alts := [], laidByText := true, laidKinds := [.data, .data, .data], laidTests := true, laidLooks := .later }
def PointsOrdersUptoCardSaid : Prop := Claim7.holds Tryd.pinned (.plain (OpenSpec.upto pointsOrdersSpec)) pointsOrdersUptoCard

/-- THE SECOND FORM's CARD OF 'scorebooklaw51.PointsAny'. -/
def pointsAnyUptoCard : Claim7 := { stood := { row := pointsAnyUptoRow, standIns := [], harness := (true, "30ca8dafd1132894d3827c3a83ab2b4681a0c4dd19686dabbba2eaa9bbe71a2a"), looks := false }, kinds := [], alts := [], laidByText := true, laidKinds := [.data, .data, .data], laidTests := true, laidLooks := .later }
def PointsAnyUptoCardSaid : Prop := Claim7.holds Tryd.pinned (.plain (OpenSpec.upto pointsAnySpec)) pointsAnyUptoCard

/-- THE SECOND FORM's CARD OF 'scorebooklaw51.PointsRates'. -/
def pointsRatesUptoCard : Claim7 := { stood := { row := pointsRatesUptoRow, standIns := [], harness := (true, "30ca8dafd1132894d3827c3a83ab2b4681a0c4dd19686dabbba2eaa9bbe71a2a"), looks := false }, kinds := [], alts := [], laidByText := true, laidKinds := [.data, .data, .data], laidTests := true, laidLooks := .later }
def PointsRatesUptoCardSaid : Prop := Claim7.holds Tryd.pinned (.plain (OpenSpec.upto pointsRatesSpec)) pointsRatesUptoCard

/-- THE SECOND FORM's CARD OF 'scorebooklaw51.PointsTables'. -/
def pointsTablesUptoCard : Claim7 := { stood := { row := pointsTablesUptoRow, standIns := [], harness := (true, "30ca8dafd1132894d3827c3a83ab2b4681a0c4dd19686dabbba2eaa9bbe71a2a"), looks := false }, kinds := [], alts := [], laidByText := true, laidKinds := [.data, .data, .data], laidTests := true, laidLooks := .later }
def PointsTablesUptoCardSaid : Prop := Claim7.holds Tryd.pinned (.plain (OpenSpec.upto pointsTablesSpec)) pointsTablesUptoCard

/-- THE SECOND FORM's CARD OF 'scorebooklaw51.PointsSums'. -/
def pointsSumsUptoCard : Claim7 := { stood := { row := pointsSumsUptoRow, standIns := [], harness := (true, "30ca8dafd1132894d3827c3a83ab2b4681a0c4dd19686dabbba2eaa9bbe71a2a"), looks := false }, kinds := [], alts := [], laidByText := true, laidKinds := [.data, .data, .data], laidTests := true, laidLooks := .later }
def PointsSumsUptoCardSaid : Prop := Claim7.holds Tryd.pinned (.plain (OpenSpec.upto pointsSumsSpec)) pointsSumsUptoCard

/-- THE SECOND FORM's CARD OF 'scorebooklaw51.PointsTexts'. -/
def pointsTextsUptoCard : Claim7 := { stood := { row := pointsTextsUptoRow, standIns := [], harness := (true, "30ca8dafd1132894d3827c3a83ab2b4681a0c4dd19686dabbba2eaa9bbe71a2a"), looks := false }, kinds := [], alts := [], laidByText := true, laidKinds := [.data, .data, .data], laidTests := true, laidLooks := .later }
def PointsTextsUptoCardSaid : Prop := Claim7.holds Tryd.pinned (.plain (OpenSpec.upto pointsTextsSpec)) pointsTextsUptoCard
end Rows
end Go.Proofs.YtfnapmdedmbdbaaDoor
