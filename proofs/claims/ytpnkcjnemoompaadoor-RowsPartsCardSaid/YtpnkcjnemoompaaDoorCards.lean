/-
  DERIVED. GIVEN WITH THE SEED: THE CARDS: each row of YtpnkcjnemoompaaDoorRows.lean that lists a variable, with what it lists TIED to the program's text (the seventh form; the later family's looks); each row that meets fmt, with fmt's text TOLD by the authors' own Lean function (tested against real Go, not proved from fmt's source: count such statements apart). THE CARD IS WHAT COUNTS. Prove the row's statement (the work); the ties are given (YtpnkcjnemoompaaDoorTie.lean); close each card by the builder's one call (the guide's Derived/Test/ToyasCard.lean, 'card_holds'). Laid BY PROGRAM, IN A SANDBOX (cutbox-door.mjs). By AI agents, Wed Nov 11 2026. No macro, syntax, notation, axiom, sorry.
-/
import Derived.Test.YtpnkcjnemoompaaDoorRows
import GoSem.ClaimSeven
namespace Go.Proofs.YtpnkcjnemoompaaDoor
namespace Rows

/-- THE TIED CARD OF 'abacistlaw32.GridTransforms'. -/
def gridTransformsCard : Claim7 := { stood := { row := gridTransformsRow, standIns := [], harness := (true, "696941bff4de972c3696d3cfa195c4591816e82d847adfdc1f4af5ea81423871"), looks := false }, kinds := [], alts := [], laidByText := true, laidKinds := [.data], laidTests := true, laidLooks := .later }
def GridTransformsCardSaid : Prop := Claim7.holds Tryd.pinned (.plain (OpenSpec.ofChange gridTransformsSpec)) gridTransformsCard

/-- THE TIED CARD OF 'abacistlaw32.GridConvolves'. -/
def gridConvolvesCard : Claim7 := { stood := { row := gridConvolvesRow, standIns := [], harness := (true, "696941bff4de972c3696d3cfa195c4591816e82d847adfdc1f4af5ea81423871"), looks := false }, kinds := [], alts := [], laidByText := true, laidKinds := [.data], laidTests := true, laidLooks := .later }
def GridConvolvesCardSaid : Prop := Claim7.holds Tryd.pinned (.plain (OpenSpec.ofChange gridConvolvesSpec)) gridConvolvesCard

/-- THE TIED CARD OF 'abacistlaw24.PlanLines'. -/
def planLinesCard : Claim7 := { stood := { row := planLinesRow, standIns := [], harness := (true, "696941bff4de972c3696d3cfa195c4591816e82d847adfdc1f4af5ea81423871"), looks := false }, kinds := [], alts := [], laidByText := true, laidKinds := [.data, .data, .data, .data], laidTests := true, laidLooks := .later }
def PlanLinesCardSaid : Prop := Claim7.holds Tryd.pinned (.plain (OpenSpec.ofChange planLinesSpec)) planLinesCard

/-- THE TIED CARD OF 'abacistlaw11.RowsViews'. -/
def rowsViewsCard : Claim7 := { stood := { row := rowsViewsRow, standIns := [], harness := (true, "696941bff4de972c3696d3cfa195c4591816e82d847adfdc1f4af5ea81423871"), looks := false }, kinds := [], alts := [], laidByText := true, laidKinds := [.data], laidTests := true, laidLooks := .later }
def RowsViewsCardSaid : Prop := Claim7.holds Tryd.pinned (.plain (OpenSpec.ofChange rowsViewsSpec)) rowsViewsCard

/-- THE TIED CARD OF 'abacistlaw11.RowsAll'. -/
def rowsAllCard : Claim7 := { stood := { row := rowsAllRow, standIns := [], harness := (true, "696941bff4de972c3696d3cfa195c4591816e82d847adfdc1f4af5ea81423871"), looks := false }, kinds := [], alts := [], laidByText := true, laidKinds := [.data], laidTests := true, laidLooks := .later }
def RowsAllCardSaid : Prop := Claim7.holds Tryd.pinned (.plain (OpenSpec.ofChange rowsAllSpec)) rowsAllCard

/-- THE TIED CARD OF 'abacistlaw11.RowsSix'. -/
def rowsSixCard : Claim7 := { stood := { row := rowsSixRow, standIns := [], harness := (true, "696941bff4de972c3696d3cfa195c4591816e82d847adfdc1f4af5ea81423871"), looks := false }, kinds := [], alts := [], laidByText := true, laidKinds := [.data], laidTests := true, laidLooks := .later }
def RowsSixCardSaid : Prop := Claim7.holds Tryd.pinned (.plain (OpenSpec.ofChange rowsSixSpec)) rowsSixCard

/-- THE TIED CARD OF 'abacistlaw32.GridMoves'. -/
def gridMovesCard : Claim7 := { stood := { row := gridMovesRow, standIns := [], harness := (true, "696941bff4de972c3696d3cfa195c4591816e82d847adfdc1f4af5ea81423871"), looks := false }, kinds := [], alts := [], laidByText := true, laidKinds := [.data], laidTests := true, laidLooks := .later }
def GridMovesCardSaid : Prop := Claim7.holds Tryd.pinned (.plain (OpenSpec.ofChange gridMovesSpec)) gridMovesCard

/-- THE TIED CARD OF 'abacistlaw24.PlanTells'. -/
def planTellsCard : Claim7 := { stood := { row := planTellsRow, standIns := [], harness := (true, "696941bff4de972c3696d3cfa195c4591816e82d847adfdc1f4af5ea81423871"), looks := false }, kinds := [], alts := [], laidByText := true, laidKinds := [.data, .data, .data, .data], laidTests := true, laidLooks := .later }
def PlanTellsCardSaid : Prop := Claim7.holds Tryd.pinned (.plain (OpenSpec.ofChange planTellsSpec)) planTellsCard

/-- THE TIED CARD OF 'abacistlaw11.RowsRun'. -/
def rowsRunCard : Claim7 := { stood := { row := rowsRunRow, standIns := [], harness := (true, "696941bff4de972c3696d3cfa195c4591816e82d847adfdc1f4af5ea81423871"), looks := false }, kinds := [], alts := [], laidByText := true, laidKinds := [.data], laidTests := true, laidLooks := .later }
def RowsRunCardSaid : Prop := Claim7.holds Tryd.pinned (.plain (OpenSpec.ofChange rowsRunSpec)) rowsRunCard

/-- THE TIED CARD OF 'abacistlaw11.RowsParts'. -/
def rowsPartsCard : Claim7 := { stood := { row := rowsPartsRow, standIns := [], harness := (true, "696941bff4de972c3696d3cfa195c4591816e82d847adfdc1f4af5ea81423871"), looks := false }, kinds := [], alts := [], laidByText := true, laidKinds := [.data], laidTests := true, laidLooks := .later }
def RowsPartsCardSaid : Prop := Claim7.holds Tryd.pinned (.plain (OpenSpec.ofChange rowsPartsSpec)) rowsPartsCard

/-- THE TIED CARD OF 'abacistlaw32.GridSums'. -/
def gridSumsCard : Claim7 := { stood := { row := gridSumsRow, standIns := [], harness := (true, "696941bff4de972c3696d3cfa195c4591816e82d847adfdc1f4af5ea81423871"), looks := false }, kinds := [], alts := [], laidByText := true, laidKinds := [.data], laidTests := true, laidLooks := .later }
def GridSumsCardSaid : Prop := Claim7.holds Tryd.pinned (.plain (OpenSpec.ofChange gridSumsSpec)) gridSumsCard

/-- THE TIED CARD OF 'abacistlaw24.PlanChecks'. -/
def planChecksCard : Claim7 := { stood := { row := planChecksRow, standIns := [], harness := (true, "696941bff4de972c3696d3cfa195c4591816e82d847adfdc1f4af5ea81423871"), looks := false }, kinds := [], alts := [], laidByText := true, laidKinds := [.data, .data, .data, .data], laidTests := true, laidLooks := .later }
def PlanChecksCardSaid : Prop := Claim7.holds Tryd.pinned (.plain (OpenSpec.ofChange planChecksSpec)) planChecksCard

/-- THE SECOND FORM's CARD OF 'abacistlaw32.GridTransforms'. -/
def gridTransformsUptoCard : Claim7 := { stood := { row := gridTransformsUptoRow, standIns := [], harness := (true, "696941bff4de972c3696d3cfa195c4591816e82d847adfdc1f4af5ea81423871"), looks := false }, kinds := [], alts := [], laidByText := true, laidKinds := [.data], laidTests := true, laidLooks := .later }
def GridTransformsUptoCardSaid : Prop := Claim7.holds Tryd.pinned (.plain (OpenSpec.upto gridTransformsSpec)) gridTransformsUptoCard

/-- THE SECOND FORM's CARD OF 'abacistlaw32.GridConvolves'. -/
def gridConvolvesUptoCard : Claim7 := { stood := { row := gridConvolvesUptoRow, standIns := [], harness := (true, "696941bff4de972c3696d3cfa195c4591816e82d847adfdc1f4af5ea81423871"), looks := false }, kinds := [], alts := [], laidByText := true, laidKinds := [.data], laidTests := true, laidLooks := .later }
def GridConvolvesUptoCardSaid : Prop := Claim7.holds Tryd.pinned (.plain (OpenSpec.upto gridConvolvesSpec)) gridConvolvesUptoCard

/-- THE SECOND FORM's CARD OF 'abacistlaw24.PlanLines'. -/
def planLinesUptoCard : Claim7 := { stood := { row := planLinesUptoRow, standIns := [], harness := (true, "696941bff4de972c3696d3cfa195c4591816e82d847adfdc1f4af5ea81423871"), looks := false }, kinds := [], alts := [], laidByText := true, laidKinds := [.data, .data, .data, .data], laidTests := true, laidLooks := .later }
def PlanLinesUptoCardSaid : Prop := Claim7.holds Tryd.pinned (.plain (OpenSpec.upto planLinesSpec)) planLinesUptoCard

/-- THE SECOND FORM's CARD OF 'abacistlaw11.RowsViews'. -/
def rowsViewsUptoCard : Claim7 := { stood := { row := rowsViewsUptoRow, standIns := [], harness := (true, "696941bff4de972c3696d3cfa195c4591816e82d847adfdc1f4af5ea81423871"), looks := false }, kinds := [], alts := [], laidByText := true, laidKinds := [.data], laidTests := true, laidLooks := .later }
def RowsViewsUptoCardSaid : Prop := Claim7.holds Tryd.pinned (.plain (OpenSpec.upto rowsViewsSpec)) rowsViewsUptoCard

/-- THE SECOND FORM's CARD OF 'abacistlaw11.RowsAll'. -/
def rowsAllUptoCard : Claim7 := { stood := { row := rowsAllUptoRow, standIns := [], harness := (true, "696941bff4de972c3696d3cfa195c4591816e82d847adfdc1f4af5ea81423871"), looks := false }, kinds := [], alts := [], laidByText := true, laidKinds := [.data], laidTests := true, laidLooks := .later }
def RowsAllUptoCardSaid : Prop := Claim7.holds Tryd.pinned (.plain (OpenSpec.upto rowsAllSpec)) rowsAllUptoCard

/-- THE SECOND FORM's CARD OF 'abacistlaw11.RowsSix'. -/
def rowsSixUptoCard : Claim7 := { stood := { row := rowsSixUptoRow, standIns := [], harness := (true, "696941bff4de972c3696d3cfa195c4591816e82d847adfdc1f4af5ea81423871"), looks := false }, kinds := [], alts := [], laidByText := true, laidKinds := [.data], laidTests := true, laidLooks := .later }
def RowsSixUptoCardSaid : Prop := Claim7.holds Tryd.pinned (.plain (OpenSpec.upto rowsSixSpec)) rowsSixUptoCard

/-- THE SECOND FORM's CARD OF 'abacistlaw32.GridMoves'. -/
def gridMovesUptoCard : Claim7 := { stood := { row := gridMovesUptoRow, standIns := [], harness := (true, "696941bff4de972c3696d3cfa195c4591816e82d847adfdc1f4af5ea81423871"), looks := false }, kinds := [], alts := [], laidByText := true, laidKinds := [.data], laidTests := true, laidLooks := .later }
def GridMovesUptoCardSaid : Prop := Claim7.holds Tryd.pinned (.plain (OpenSpec.upto gridMovesSpec)) gridMovesUptoCard

/-- THE SECOND FORM's CARD OF 'abacistlaw24.PlanTells'. -/
def planTellsUptoCard : Claim7 := { stood := { row := planTellsUptoRow, standIns := [], harness := (true, "696941bff4de972c3696d3cfa195c4591816e82d847adfdc1f4af5ea81423871"), looks := false }, kinds := [], alts := [], laidByText := true, laidKinds := [.data, .data, .data, .data], laidTests := true, laidLooks := .later }
def PlanTellsUptoCardSaid : Prop := Claim7.holds Tryd.pinned (.plain (OpenSpec.upto planTellsSpec)) planTellsUptoCard

/-- THE SECOND FORM's CARD OF 'abacistlaw11.RowsRun'. -/
def rowsRunUptoCard : Claim7 := { stood := { row := rowsRunUptoRow, standIns := [], harness := (true, "696941bff4de972c3696d3cfa195c4591816e82d847adfdc1f4af5ea81423871"), looks := false }, kinds := [], alts := [], laidByText := true, laidKinds := [.data], laidTests := true, laidLooks := .later }
def RowsRunUptoCardSaid : Prop := Claim7.holds Tryd.pinned (.plain (OpenSpec.upto rowsRunSpec)) rowsRunUptoCard

/-- THE SECOND FORM's CARD OF 'abacistlaw11.RowsParts'. -/
def rowsPartsUptoCard : Claim7 := { stood := { row := rowsPartsUptoRow, standIns := [], harness := (true, "696941bff4de972c3696d3cfa195c4591816e82d847adfdc1f4af5ea81423871"), looks := false }, kinds := [], alts := [], laidByText := true, laidKinds := [.data], laidTests := true, laidLooks := .later }
def RowsPartsUptoCardSaid : Prop := Claim7.holds Tryd.pinned (.plain (OpenSpec.upto rowsPartsSpec)) rowsPartsUptoCard

/-- THE SECOND FORM's CARD OF 'abacistlaw32.GridSums'. -/
def gridSumsUptoCard : Claim7 := { stood := { row := gridSumsUptoRow, standIns := [], harness := (true, "696941bff4de972c3696d3cfa195c4591816e82d847adfdc1f4af5ea81423871"), looks := false }, kinds := [], alts := [], laidByText := true, laidKinds := [.data], laidTests := true, laidLooks := .later }
def GridSumsUptoCardSaid : Prop := Claim7.holds Tryd.pinned (.plain (OpenSpec.upto gridSumsSpec)) gridSumsUptoCard

/-- THE SECOND FORM's CARD OF 'abacistlaw24.PlanChecks'. -/
def planChecksUptoCard : Claim7 := { stood := { row := planChecksUptoRow, standIns := [], harness := (true, "696941bff4de972c3696d3cfa195c4591816e82d847adfdc1f4af5ea81423871"), looks := false }, kinds := [], alts := [], laidByText := true, laidKinds := [.data, .data, .data, .data], laidTests := true, laidLooks := .later }
def PlanChecksUptoCardSaid : Prop := Claim7.holds Tryd.pinned (.plain (OpenSpec.upto planChecksSpec)) planChecksUptoCard
end Rows
end Go.Proofs.YtpnkcjnemoompaaDoor
