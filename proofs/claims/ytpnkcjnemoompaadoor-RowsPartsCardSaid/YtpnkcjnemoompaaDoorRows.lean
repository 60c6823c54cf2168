/-
  NARROWER THAN 'FOR EVERY INPUT', by the rows' own cells (each row's printed sentence says how): GridTransforms: laid · GridConvolves: laid · PlanLines: laid · RowsViews: laid · RowsAll: laid · RowsSix: laid · GridMoves: laid · PlanTells: laid · RowsRun: laid · RowsParts: laid · GridSums: laid · PlanChecks: laid.
  DERIVED. THE GIVEN ROWS OF THIS SEAT. 12 by the template 'for every input the law returns true; each argument reads behind the call as it read before'; 0 by the template 'total and deterministic' (their statements: YtpnkcjnemoompaaDoorTotals.lean).
  GIVEN WITH THE SEED: the statements are not yours to turn. If you find one false, say at which input.
  Laid BY PROGRAM, IN A SANDBOX (cutbox-rows.mjs): the forced cells as the released guide's own fill.sh prints them over the translation df3289af203e42db… (all of the seat's roots in one cut). By AI agents, Wed Nov 11 2026. No macro, syntax, notation, axiom, sorry.
-/
import Derived.Test.YtpnkcjnemoompaaDoorChecked
import GoSem.Claim
import GoSem.ClaimJoined
import GoSem.ClaimMapViews
import Derived.JoinedTies
import Derived.KernelRfl
namespace Go.Proofs.YtpnkcjnemoompaaDoor
/- THE CELL 'sum', in the pinned program and in every row, IS THE sha256 OF THE DUMP (.gsa) THAT YtpnkcjnemoompaaDoorProg.lean LOADS. Nothing in Lean hashes anything: it is a label: what it is worth is what the hold of that sum in a sandbox is worth. -/
noncomputable def Tryd.pinned : Pinned := { name := "ytpnkcjnemoompaadoor", sum := "df3289af203e42dbc434855da5e3b0918d4614a1de5f8d52cee7468b194b4048", checked := Tryd.checked }
namespace Rows
def none {H : Type} : Left H := { results := [], args := [] }

/- WHAT THE LISTED PACKAGE-LEVEL VARIABLES READ AS WHEN THE CALL BEGINS. Each datum BY PROGRAM (the guide's laid-datum.mjs) off the statement by which the dump's own 'gosem.cut.vars' lays the variable. In a bare row this is a premise. The card (YtpnkcjnemoompaaDoorCards.lean) ties it to the program's text. -/
def laid_math_bits_deBruijn64tab {H : Type} : DataW H := .agg [.lit (.int .u8 0), .lit (.int .u8 1), .lit (.int .u8 56), .lit (.int .u8 2), .lit (.int .u8 57), .lit (.int .u8 49), .lit (.int .u8 28), .lit (.int .u8 3), .lit (.int .u8 61), .lit (.int .u8 58), .lit (.int .u8 42), .lit (.int .u8 50), .lit (.int .u8 38), .lit (.int .u8 29), .lit (.int .u8 17), .lit (.int .u8 4), .lit (.int .u8 62), .lit (.int .u8 47), .lit (.int .u8 59), .lit (.int .u8 36), .lit (.int .u8 45), .lit (.int .u8 43), .lit (.int .u8 51), .lit (.int .u8 22), .lit (.int .u8 53), .lit (.int .u8 39), .lit (.int .u8 33), .lit (.int .u8 30), .lit (.int .u8 24), .lit (.int .u8 18), .lit (.int .u8 12), .lit (.int .u8 5), .lit (.int .u8 63), .lit (.int .u8 55), .lit (.int .u8 48), .lit (.int .u8 27), .lit (.int .u8 60), .lit (.int .u8 41), .lit (.int .u8 37), .lit (.int .u8 16), .lit (.int .u8 46), .lit (.int .u8 35), .lit (.int .u8 44), .lit (.int .u8 21), .lit (.int .u8 52), .lit (.int .u8 32), .lit (.int .u8 23), .lit (.int .u8 11), .lit (.int .u8 54), .lit (.int .u8 26), .lit (.int .u8 40), .lit (.int .u8 15), .lit (.int .u8 34), .lit (.int .u8 20), .lit (.int .u8 31), .lit (.int .u8 10), .lit (.int .u8 25), .lit (.int .u8 14), .lit (.int .u8 19), .lit (.int .u8 9), .lit (.int .u8 13), .lit (.int .u8 8), .lit (.int .u8 7), .lit (.int .u8 6)]
def laid_math_bits_deBruijn32tab {H : Type} : DataW H := .agg [.lit (.int .u8 0), .lit (.int .u8 1), .lit (.int .u8 28), .lit (.int .u8 2), .lit (.int .u8 29), .lit (.int .u8 14), .lit (.int .u8 24), .lit (.int .u8 3), .lit (.int .u8 30), .lit (.int .u8 22), .lit (.int .u8 20), .lit (.int .u8 15), .lit (.int .u8 25), .lit (.int .u8 17), .lit (.int .u8 4), .lit (.int .u8 8), .lit (.int .u8 31), .lit (.int .u8 27), .lit (.int .u8 13), .lit (.int .u8 23), .lit (.int .u8 21), .lit (.int .u8 19), .lit (.int .u8 16), .lit (.int .u8 7), .lit (.int .u8 26), .lit (.int .u8 12), .lit (.int .u8 18), .lit (.int .u8 6), .lit (.int .u8 11), .lit (.int .u8 5), .lit (.int .u8 10), .lit (.int .u8 9)]
def laid_internal_strconv_uint64pow10 {H : Type} : DataW H := .agg [.lit (.int .u64 1), .lit (.int .u64 10), .lit (.int .u64 100), .lit (.int .u64 1000), .lit (.int .u64 10000), .lit (.int .u64 100000), .lit (.int .u64 1000000), .lit (.int .u64 10000000), .lit (.int .u64 100000000), .lit (.int .u64 1000000000), .lit (.int .u64 10000000000), .lit (.int .u64 100000000000), .lit (.int .u64 1000000000000), .lit (.int .u64 10000000000000), .lit (.int .u64 100000000000000), .lit (.int .u64 1000000000000000), .lit (.int .u64 10000000000000000), .lit (.int .u64 100000000000000000), .lit (.int .u64 1000000000000000000), .lit (.int .u64 10000000000000000000)]
def laid_abacist_plan_extents {H : Type} : DataW H := .agg [.lit (.string [105, 110, 112, 117, 116]), .lit (.string [108, 101, 102, 116]), .lit (.string [114, 105, 103, 104, 116]), .lit (.string [111, 117, 116, 112, 117, 116])]

/-- 'abacistlaw32.GridTransforms': WHATEVER THE INPUT: true; the input reads as it did. -/
def gridTransformsSpec : ChangeSpec := { name := "gridTransforms", fn := fun _ => fun
  | [d1, d2, d3] => { results := [.lit (.bool true)], args := [d1, d2, d3] }
  | _ => none }
def gridTransformsRow : OpenClaim := { program := "ytpnkcjnemoompaadoor", sum := "df3289af203e42dbc434855da5e3b0918d4614a1de5f8d52cee7468b194b4048", func := "abacist/abacistlaw32.GridTransforms", spec := "gridTransforms", inPlace := ["math/bits.Add64"], unfollowed := true, recurses := true, named := ["math/bits.deBruijn64tab"], apart := false, laid := [("math/bits.deBruijn64tab", laid_math_bits_deBruijn64tab)] }
def GridTransformsSaid : Prop := gridTransformsRow.holds Tryd.pinned (OpenSpec.ofChange gridTransformsSpec)

/-- ITS FALSE NEIGHBOUR: 'it returns false'. Refute it at one input. -/
def gridTransformsWrong : ChangeSpec := { name := "gridTransforms", fn := fun _ => fun
  | [d1, d2, d3] => { results := [.lit (.bool false)], args := [d1, d2, d3] }
  | _ => none }
def GridTransformsWrongFalsely : Prop := gridTransformsRow.holds Tryd.pinned (OpenSpec.ofChange gridTransformsWrong)

/-- 'abacistlaw32.GridConvolves': WHATEVER THE INPUT: true; the input reads as it did. -/
def gridConvolvesSpec : ChangeSpec := { name := "gridConvolves", fn := fun _ => fun
  | [d1, d2, d3, d4] => { results := [.lit (.bool true)], args := [d1, d2, d3, d4] }
  | _ => none }
def gridConvolvesRow : OpenClaim := { program := "ytpnkcjnemoompaadoor", sum := "df3289af203e42dbc434855da5e3b0918d4614a1de5f8d52cee7468b194b4048", func := "abacist/abacistlaw32.GridConvolves", spec := "gridConvolves", inPlace := ["math/bits.Add64"], unfollowed := true, recurses := true, named := ["math/bits.deBruijn64tab"], apart := false, laid := [("math/bits.deBruijn64tab", laid_math_bits_deBruijn64tab)] }
def GridConvolvesSaid : Prop := gridConvolvesRow.holds Tryd.pinned (OpenSpec.ofChange gridConvolvesSpec)

/-- ITS FALSE NEIGHBOUR: 'it returns false'. Refute it at one input. -/
def gridConvolvesWrong : ChangeSpec := { name := "gridConvolves", fn := fun _ => fun
  | [d1, d2, d3, d4] => { results := [.lit (.bool false)], args := [d1, d2, d3, d4] }
  | _ => none }
def GridConvolvesWrongFalsely : Prop := gridConvolvesRow.holds Tryd.pinned (OpenSpec.ofChange gridConvolvesWrong)

/-- 'abacistlaw24.PlanLines': WHATEVER THE INPUT: true; the input reads as it did. -/
def planLinesSpec : ChangeSpec := { name := "planLines", fn := fun _ => fun
  | [d] => { results := [.lit (.bool true)], args := [d] }
  | _ => none }
def planLinesRow : OpenClaim := { program := "ytpnkcjnemoompaadoor", sum := "df3289af203e42dbc434855da5e3b0918d4614a1de5f8d52cee7468b194b4048", func := "abacist/abacistlaw24.PlanLines", spec := "planLines", inPlace := ["internal/abi.NoEscape", "internal/bytealg.MakeNoZero"], unfollowed := true, recurses := true, named := ["abacist/plan.extents", "internal/strconv.uint64pow10", "math/bits.deBruijn32tab", "math/bits.deBruijn64tab"], apart := false, laid := [("math/bits.deBruijn32tab", laid_math_bits_deBruijn32tab), ("math/bits.deBruijn64tab", laid_math_bits_deBruijn64tab), ("internal/strconv.uint64pow10", laid_internal_strconv_uint64pow10), ("abacist/plan.extents", laid_abacist_plan_extents)] }
def PlanLinesSaid : Prop := planLinesRow.holds Tryd.pinned (OpenSpec.ofChange planLinesSpec)

/-- ITS FALSE NEIGHBOUR: 'it returns false'. Refute it at one input. -/
def planLinesWrong : ChangeSpec := { name := "planLines", fn := fun _ => fun
  | [d] => { results := [.lit (.bool false)], args := [d] }
  | _ => none }
def PlanLinesWrongFalsely : Prop := planLinesRow.holds Tryd.pinned (OpenSpec.ofChange planLinesWrong)

/-- 'abacistlaw11.RowsViews': WHATEVER THE INPUT: true; the input reads as it did. -/
def rowsViewsSpec : ChangeSpec := { name := "rowsViews", fn := fun _ => fun
  | [d1, d2, d3] => { results := [.lit (.bool true)], args := [d1, d2, d3] }
  | _ => none }
def rowsViewsRow : OpenClaim := { program := "ytpnkcjnemoompaadoor", sum := "df3289af203e42dbc434855da5e3b0918d4614a1de5f8d52cee7468b194b4048", func := "abacist/abacistlaw11.RowsViews", spec := "rowsViews", inPlace := ["math/bits.Add64"], unfollowed := true, recurses := true, named := ["math/bits.deBruijn64tab"], apart := false, laid := [("math/bits.deBruijn64tab", laid_math_bits_deBruijn64tab)] }
def RowsViewsSaid : Prop := rowsViewsRow.holds Tryd.pinned (OpenSpec.ofChange rowsViewsSpec)

/-- ITS FALSE NEIGHBOUR: 'it returns false'. Refute it at one input. -/
def rowsViewsWrong : ChangeSpec := { name := "rowsViews", fn := fun _ => fun
  | [d1, d2, d3] => { results := [.lit (.bool false)], args := [d1, d2, d3] }
  | _ => none }
def RowsViewsWrongFalsely : Prop := rowsViewsRow.holds Tryd.pinned (OpenSpec.ofChange rowsViewsWrong)

/-- 'abacistlaw11.RowsAll': WHATEVER THE INPUT: true; the input reads as it did. -/
def rowsAllSpec : ChangeSpec := { name := "rowsAll", fn := fun _ => fun
  | [d1, d2, d3] => { results := [.lit (.bool true)], args := [d1, d2, d3] }
  | _ => none }
def rowsAllRow : OpenClaim := { program := "ytpnkcjnemoompaadoor", sum := "df3289af203e42dbc434855da5e3b0918d4614a1de5f8d52cee7468b194b4048", func := "abacist/abacistlaw11.RowsAll", spec := "rowsAll", inPlace := ["math/bits.Add64"], unfollowed := true, recurses := true, named := ["math/bits.deBruijn64tab"], apart := false, laid := [("math/bits.deBruijn64tab", laid_math_bits_deBruijn64tab)] }
def RowsAllSaid : Prop := rowsAllRow.holds Tryd.pinned (OpenSpec.ofChange rowsAllSpec)

/-- ITS FALSE NEIGHBOUR: 'it returns false'. Refute it at one input. -/
def rowsAllWrong : ChangeSpec := { name := "rowsAll", fn := fun _ => fun
  | [d1, d2, d3] => { results := [.lit (.bool false)], args := [d1, d2, d3] }
  | _ => none }
def RowsAllWrongFalsely : Prop := rowsAllRow.holds Tryd.pinned (OpenSpec.ofChange rowsAllWrong)

/-- 'abacistlaw11.RowsSix': WHATEVER THE INPUT: true; the input reads as it did. -/
def rowsSixSpec : ChangeSpec := { name := "rowsSix", fn := fun _ => fun
  | [d1, d2, d3] => { results := [.lit (.bool true)], args := [d1, d2, d3] }
  | _ => none }
def rowsSixRow : OpenClaim := { program := "ytpnkcjnemoompaadoor", sum := "df3289af203e42dbc434855da5e3b0918d4614a1de5f8d52cee7468b194b4048", func := "abacist/abacistlaw11.RowsSix", spec := "rowsSix", inPlace := ["math/bits.Add64"], unfollowed := true, recurses := true, named := ["math/bits.deBruijn64tab"], apart := false, laid := [("math/bits.deBruijn64tab", laid_math_bits_deBruijn64tab)] }
def RowsSixSaid : Prop := rowsSixRow.holds Tryd.pinned (OpenSpec.ofChange rowsSixSpec)

/-- ITS FALSE NEIGHBOUR: 'it returns false'. Refute it at one input. -/
def rowsSixWrong : ChangeSpec := { name := "rowsSix", fn := fun _ => fun
  | [d1, d2, d3] => { results := [.lit (.bool false)], args := [d1, d2, d3] }
  | _ => none }
def RowsSixWrongFalsely : Prop := rowsSixRow.holds Tryd.pinned (OpenSpec.ofChange rowsSixWrong)

/-- 'abacistlaw32.GridMoves': WHATEVER THE INPUT: true; the input reads as it did. -/
def gridMovesSpec : ChangeSpec := { name := "gridMoves", fn := fun _ => fun
  | [d1, d2, d3, d4] => { results := [.lit (.bool true)], args := [d1, d2, d3, d4] }
  | _ => none }
def gridMovesRow : OpenClaim := { program := "ytpnkcjnemoompaadoor", sum := "df3289af203e42dbc434855da5e3b0918d4614a1de5f8d52cee7468b194b4048", func := "abacist/abacistlaw32.GridMoves", spec := "gridMoves", inPlace := ["math/bits.Add64"], unfollowed := true, recurses := true, named := ["math/bits.deBruijn64tab"], apart := false, laid := [("math/bits.deBruijn64tab", laid_math_bits_deBruijn64tab)] }
def GridMovesSaid : Prop := gridMovesRow.holds Tryd.pinned (OpenSpec.ofChange gridMovesSpec)

/-- ITS FALSE NEIGHBOUR: 'it returns false'. Refute it at one input. -/
def gridMovesWrong : ChangeSpec := { name := "gridMoves", fn := fun _ => fun
  | [d1, d2, d3, d4] => { results := [.lit (.bool false)], args := [d1, d2, d3, d4] }
  | _ => none }
def GridMovesWrongFalsely : Prop := gridMovesRow.holds Tryd.pinned (OpenSpec.ofChange gridMovesWrong)

/-- 'abacistlaw24.PlanTells': WHATEVER THE INPUT: true; the input reads as it did. -/
def planTellsSpec : ChangeSpec := { name := "planTells", fn := fun _ => fun
  | [d1, d2, d3, d4] => { results := [.lit (.bool true)], args := [d1, d2, d3, d4] }
  | _ => none }
def planTellsRow : OpenClaim := { program := "ytpnkcjnemoompaadoor", sum := "df3289af203e42dbc434855da5e3b0918d4614a1de5f8d52cee7468b194b4048", func := "abacist/abacistlaw24.PlanTells", spec := "planTells", inPlace := ["internal/abi.NoEscape", "internal/bytealg.MakeNoZero"], unfollowed := true, recurses := true, named := ["abacist/plan.extents", "internal/strconv.uint64pow10", "math/bits.deBruijn32tab", "math/bits.deBruijn64tab"], apart := false, laid := [("math/bits.deBruijn32tab", laid_math_bits_deBruijn32tab), ("math/bits.deBruijn64tab", laid_math_bits_deBruijn64tab), ("internal/strconv.uint64pow10", laid_internal_strconv_uint64pow10), ("abacist/plan.extents", laid_abacist_plan_extents)] }
def PlanTellsSaid : Prop := planTellsRow.holds Tryd.pinned (OpenSpec.ofChange planTellsSpec)

/-- ITS FALSE NEIGHBOUR: 'it returns false'. Refute it at one input. -/
def planTellsWrong : ChangeSpec := { name := "planTells", fn := fun _ => fun
  | [d1, d2, d3, d4] => { results := [.lit (.bool false)], args := [d1, d2, d3, d4] }
  | _ => none }
def PlanTellsWrongFalsely : Prop := planTellsRow.holds Tryd.pinned (OpenSpec.ofChange planTellsWrong)

/-- 'abacistlaw11.RowsRun': WHATEVER THE INPUT: true; the input reads as it did. -/
def rowsRunSpec : ChangeSpec := { name := "rowsRun", fn := fun _ => fun
  | [d1, d2, d3] => { results := [.lit (.bool true)], args := [d1, d2, d3] }
  | _ => none }
def rowsRunRow : OpenClaim := { program := "ytpnkcjnemoompaadoor", sum := "df3289af203e42dbc434855da5e3b0918d4614a1de5f8d52cee7468b194b4048", func := "abacist/abacistlaw11.RowsRun", spec := "rowsRun", inPlace := ["math/bits.Add64"], unfollowed := true, recurses := true, named := ["math/bits.deBruijn64tab"], apart := false, laid := [("math/bits.deBruijn64tab", laid_math_bits_deBruijn64tab)] }
def RowsRunSaid : Prop := rowsRunRow.holds Tryd.pinned (OpenSpec.ofChange rowsRunSpec)

/-- ITS FALSE NEIGHBOUR: 'it returns false'. Refute it at one input. -/
def rowsRunWrong : ChangeSpec := { name := "rowsRun", fn := fun _ => fun
  | [d1, d2, d3] => { results := [.lit (.bool false)], args := [d1, d2, d3] }
  | _ => none }
def RowsRunWrongFalsely : Prop := rowsRunRow.holds Tryd.pinned (OpenSpec.ofChange rowsRunWrong)

/-- 'abacistlaw11.RowsParts': WHATEVER THE INPUT: true; the input reads as it did. -/
def rowsPartsSpec : ChangeSpec := { name := "rowsParts", fn := fun _ => fun
  | [d1, d2, d3] => { results := [.lit (.bool true)], args := [d1, d2, d3] }
  | _ => none }
def rowsPartsRow : OpenClaim := { program := "ytpnkcjnemoompaadoor", sum := "df3289af203e42dbc434855da5e3b0918d4614a1de5f8d52cee7468b194b4048", func := "abacist/abacistlaw11.RowsParts", spec := "rowsParts", inPlace := ["math/bits.Add64"], unfollowed := true, recurses := true, named := ["math/bits.deBruijn64tab"], apart := false, laid := [("math/bits.deBruijn64tab", laid_math_bits_deBruijn64tab)] }
def RowsPartsSaid : Prop := rowsPartsRow.holds Tryd.pinned (OpenSpec.ofChange rowsPartsSpec)

/-- ITS FALSE NEIGHBOUR: 'it returns false'. Refute it at one input. -/
def rowsPartsWrong : ChangeSpec := { name := "rowsParts", fn := fun _ => fun
  | [d1, d2, d3] => { results := [.lit (.bool false)], args := [d1, d2, d3] }
  | _ => none }
def RowsPartsWrongFalsely : Prop := rowsPartsRow.holds Tryd.pinned (OpenSpec.ofChange rowsPartsWrong)

/-- 'abacistlaw32.GridSums': WHATEVER THE INPUT: true; the input reads as it did. -/
def gridSumsSpec : ChangeSpec := { name := "gridSums", fn := fun _ => fun
  | [d1, d2, d3] => { results := [.lit (.bool true)], args := [d1, d2, d3] }
  | _ => none }
def gridSumsRow : OpenClaim := { program := "ytpnkcjnemoompaadoor", sum := "df3289af203e42dbc434855da5e3b0918d4614a1de5f8d52cee7468b194b4048", func := "abacist/abacistlaw32.GridSums", spec := "gridSums", inPlace := ["math/bits.Add64"], unfollowed := true, recurses := true, named := ["math/bits.deBruijn64tab"], apart := false, laid := [("math/bits.deBruijn64tab", laid_math_bits_deBruijn64tab)] }
def GridSumsSaid : Prop := gridSumsRow.holds Tryd.pinned (OpenSpec.ofChange gridSumsSpec)

/-- ITS FALSE NEIGHBOUR: 'it returns false'. Refute it at one input. -/
def gridSumsWrong : ChangeSpec := { name := "gridSums", fn := fun _ => fun
  | [d1, d2, d3] => { results := [.lit (.bool false)], args := [d1, d2, d3] }
  | _ => none }
def GridSumsWrongFalsely : Prop := gridSumsRow.holds Tryd.pinned (OpenSpec.ofChange gridSumsWrong)

/-- 'abacistlaw24.PlanChecks': WHATEVER THE INPUT: true; the input reads as it did. -/
def planChecksSpec : ChangeSpec := { name := "planChecks", fn := fun _ => fun
  | [d1, d2] => { results := [.lit (.bool true)], args := [d1, d2] }
  | _ => none }
def planChecksRow : OpenClaim := { program := "ytpnkcjnemoompaadoor", sum := "df3289af203e42dbc434855da5e3b0918d4614a1de5f8d52cee7468b194b4048", func := "abacist/abacistlaw24.PlanChecks", spec := "planChecks", inPlace := ["internal/abi.NoEscape", "internal/bytealg.MakeNoZero"], unfollowed := true, recurses := true, named := ["abacist/plan.extents", "internal/strconv.uint64pow10", "math/bits.deBruijn32tab", "math/bits.deBruijn64tab"], apart := false, laid := [("math/bits.deBruijn32tab", laid_math_bits_deBruijn32tab), ("math/bits.deBruijn64tab", laid_math_bits_deBruijn64tab), ("internal/strconv.uint64pow10", laid_internal_strconv_uint64pow10), ("abacist/plan.extents", laid_abacist_plan_extents)] }
def PlanChecksSaid : Prop := planChecksRow.holds Tryd.pinned (OpenSpec.ofChange planChecksSpec)

/-- ITS FALSE NEIGHBOUR: 'it returns false'. Refute it at one input. -/
def planChecksWrong : ChangeSpec := { name := "planChecks", fn := fun _ => fun
  | [d1, d2] => { results := [.lit (.bool false)], args := [d1, d2] }
  | _ => none }
def PlanChecksWrongFalsely : Prop := planChecksRow.holds Tryd.pinned (OpenSpec.ofChange planChecksWrong)

/- THE SECOND FORM. 'bulk': how many values and letters a reading holds, each counted each time it is reached (what is shared counts as often as it is met; a slice's spare places count too). A statement '..UptoSaid' is the law's where the arguments, and the package variables that the reading takes, are together of bulk at most 1048576: NARROWER than '..Said'. Prove '..Said' where nothing that the law and all that it calls make is longer than what came in: it says more and counts as full. Else prove '..UptoSaid'. A law counts once. -/
mutual
def uptoBulk {H : Type} : DataW H → Nat
  | .lit (.string bytes) => bytes.length + 1
  | .lit _ => 1
  | .nil => 1
  | .ptr d => uptoBulk d + 1
  | .slice elems spare => uptoBulkAll elems + uptoBulkAll spare + 1
  | .agg parts => uptoBulkAll parts + 1
  | .iface _ d => uptoBulk d + 1
  | .map entries => uptoBulkEntries entries + 1
  | .held _ => 1
def uptoBulkAll {H : Type} : List (DataW H) → Nat
  | [] => 0
  | d :: r => uptoBulk d + uptoBulkAll r
def uptoBulkEntries {H : Type} : List (Lit × DataW H) → Nat
  | [] => 0
  | x :: r => uptoBulkEntry x + uptoBulkEntries r
def uptoBulkEntry {H : Type} : Lit × DataW H → Nat
  | (.string bytes, d) => bytes.length + uptoBulk d + 1
  | (_, d) => uptoBulk d + 1
 end
def uptoSmall : (H : Type) → List (DataW H) → Bool := fun _ ds => decide (uptoBulkAll ds ≤ 1048576)
def OpenSpec.upto (s : _root_.Go.ChangeSpec) : _root_.Go.OpenSpec := { _root_.Go.OpenSpec.ofChange s with cond := some uptoSmall }

/-- 'abacistlaw32.GridTransforms', WHERE WHAT IT READS IS OF BULK AT MOST 1048576: true; the input reads as it did. -/
def gridTransformsUptoRow : OpenClaim := { program := "ytpnkcjnemoompaadoor", sum := "df3289af203e42dbc434855da5e3b0918d4614a1de5f8d52cee7468b194b4048", func := "abacist/abacistlaw32.GridTransforms", spec := "gridTransforms", inPlace := ["math/bits.Add64"], unfollowed := true, recurses := true, named := ["math/bits.deBruijn64tab"], apart := false, laid := [("math/bits.deBruijn64tab", laid_math_bits_deBruijn64tab)], narrowed := true }
def GridTransformsUptoSaid : Prop := gridTransformsUptoRow.holds Tryd.pinned (OpenSpec.upto gridTransformsSpec)

/-- 'abacistlaw32.GridConvolves', WHERE WHAT IT READS IS OF BULK AT MOST 1048576: true; the input reads as it did. -/
def gridConvolvesUptoRow : OpenClaim := { program := "ytpnkcjnemoompaadoor", sum := "df3289af203e42dbc434855da5e3b0918d4614a1de5f8d52cee7468b194b4048", func := "abacist/abacistlaw32.GridConvolves", spec := "gridConvolves", inPlace := ["math/bits.Add64"], unfollowed := true, recurses := true, named := ["math/bits.deBruijn64tab"], apart := false, laid := [("math/bits.deBruijn64tab", laid_math_bits_deBruijn64tab)], narrowed := true }
def GridConvolvesUptoSaid : Prop := gridConvolvesUptoRow.holds Tryd.pinned (OpenSpec.upto gridConvolvesSpec)

/-- 'abacistlaw24.PlanLines', WHERE WHAT IT READS IS OF BULK AT MOST 1048576: true; the input reads as it did. -/
def planLinesUptoRow : OpenClaim := { program := "ytpnkcjnemoompaadoor", sum := "df3289af203e42dbc434855da5e3b0918d4614a1de5f8d52cee7468b194b4048", func := "abacist/abacistlaw24.PlanLines", spec := "planLines", inPlace := ["internal/abi.NoEscape", "internal/bytealg.MakeNoZero"], unfollowed := true, recurses := true, named := ["abacist/plan.extents", "internal/strconv.uint64pow10", "math/bits.deBruijn32tab", "math/bits.deBruijn64tab"], apart := false, laid := [("math/bits.deBruijn32tab", laid_math_bits_deBruijn32tab), ("math/bits.deBruijn64tab", laid_math_bits_deBruijn64tab), ("internal/strconv.uint64pow10", laid_internal_strconv_uint64pow10), ("abacist/plan.extents", laid_abacist_plan_extents)], narrowed := true }
def PlanLinesUptoSaid : Prop := planLinesUptoRow.holds Tryd.pinned (OpenSpec.upto planLinesSpec)

/-- 'abacistlaw11.RowsViews', WHERE WHAT IT READS IS OF BULK AT MOST 1048576: true; the input reads as it did. -/
def rowsViewsUptoRow : OpenClaim := { program := "ytpnkcjnemoompaadoor", sum := "df3289af203e42dbc434855da5e3b0918d4614a1de5f8d52cee7468b194b4048", func := "abacist/abacistlaw11.RowsViews", spec := "rowsViews", inPlace := ["math/bits.Add64"], unfollowed := true, recurses := true, named := ["math/bits.deBruijn64tab"], apart := false, laid := [("math/bits.deBruijn64tab", laid_math_bits_deBruijn64tab)], narrowed := true }
def RowsViewsUptoSaid : Prop := rowsViewsUptoRow.holds Tryd.pinned (OpenSpec.upto rowsViewsSpec)

/-- 'abacistlaw11.RowsAll', WHERE WHAT IT READS IS OF BULK AT MOST 1048576: true; the input reads as it did. -/
def rowsAllUptoRow : OpenClaim := { program := "ytpnkcjnemoompaadoor", sum := "df3289af203e42dbc434855da5e3b0918d4614a1de5f8d52cee7468b194b4048", func := "abacist/abacistlaw11.RowsAll", spec := "rowsAll", inPlace := ["math/bits.Add64"], unfollowed := true, recurses := true, named := ["math/bits.deBruijn64tab"], apart := false, laid := [("math/bits.deBruijn64tab", laid_math_bits_deBruijn64tab)], narrowed := true }
def RowsAllUptoSaid : Prop := rowsAllUptoRow.holds Tryd.pinned (OpenSpec.upto rowsAllSpec)

/-- 'abacistlaw11.RowsSix', WHERE WHAT IT READS IS OF BULK AT MOST 1048576: true; the input reads as it did. -/
def rowsSixUptoRow : OpenClaim := { program := "ytpnkcjnemoompaadoor", sum := "df3289af203e42dbc434855da5e3b0918d4614a1de5f8d52cee7468b194b4048", func := "abacist/abacistlaw11.RowsSix", spec := "rowsSix", inPlace := ["math/bits.Add64"], unfollowed := true, recurses := true, named := ["math/bits.deBruijn64tab"], apart := false, laid := [("math/bits.deBruijn64tab", laid_math_bits_deBruijn64tab)], narrowed := true }
def RowsSixUptoSaid : Prop := rowsSixUptoRow.holds Tryd.pinned (OpenSpec.upto rowsSixSpec)

/-- 'abacistlaw32.GridMoves', WHERE WHAT IT READS IS OF BULK AT MOST 1048576: true; the input reads as it did. -/
def gridMovesUptoRow : OpenClaim := { program := "ytpnkcjnemoompaadoor", sum := "df3289af203e42dbc434855da5e3b0918d4614a1de5f8d52cee7468b194b4048", func := "abacist/abacistlaw32.GridMoves", spec := "gridMoves", inPlace := ["math/bits.Add64"], unfollowed := true, recurses := true, named := ["math/bits.deBruijn64tab"], apart := false, laid := [("math/bits.deBruijn64tab", laid_math_bits_deBruijn64tab)], narrowed := true }
def GridMovesUptoSaid : Prop := gridMovesUptoRow.holds Tryd.pinned (OpenSpec.upto gridMovesSpec)

/-- 'abacistlaw24.PlanTells', WHERE WHAT IT READS IS OF BULK AT MOST 1048576: true; the input reads as it did. -/
def planTellsUptoRow : OpenClaim := { program := "ytpnkcjnemoompaadoor", sum := "df3289af203e42dbc434855da5e3b0918d4614a1de5f8d52cee7468b194b4048", func := "abacist/abacistlaw24.PlanTells", spec := "planTells", inPlace := ["internal/abi.NoEscape", "internal/bytealg.MakeNoZero"], unfollowed := true, recurses := true, named := ["abacist/plan.extents", "internal/strconv.uint64pow10", "math/bits.deBruijn32tab", "math/bits.deBruijn64tab"], apart := false, laid := [("math/bits.deBruijn32tab", laid_math_bits_deBruijn32tab), ("math/bits.deBruijn64tab", laid_math_bits_deBruijn64tab), ("internal/strconv.uint64pow10", laid_internal_strconv_uint64pow10), ("abacist/plan.extents", laid_abacist_plan_extents)], narrowed := true }
def PlanTellsUptoSaid : Prop := planTellsUptoRow.holds Tryd.pinned (OpenSpec.upto planTellsSpec)

/-- 'abacistlaw11.RowsRun', WHERE WHAT IT READS IS OF BULK AT MOST 1048576: true; the input reads as it did. -/
def rowsRunUptoRow : OpenClaim := { program := "ytpnkcjnemoompaadoor", sum := "df3289af203e42dbc434855da5e3b0918d4614a1de5f8d52cee7468b194b4048", func := "abacist/abacistlaw11.RowsRun", spec := "rowsRun", inPlace := ["math/bits.Add64"], unfollowed := true, recurses := true, named := ["math/bits.deBruijn64tab"], apart := false, laid := [("math/bits.deBruijn64tab", laid_math_bits_deBruijn64tab)], narrowed := true }
def RowsRunUptoSaid : Prop := rowsRunUptoRow.holds Tryd.pinned (OpenSpec.upto rowsRunSpec)

/-- 'abacistlaw11.RowsParts', WHERE WHAT IT READS IS OF BULK AT MOST 1048576: true; the input reads as it did. -/
def rowsPartsUptoRow : OpenClaim := { program := "ytpnkcjnemoompaadoor", sum := "df3289af203e42dbc434855da5e3b0918d4614a1de5f8d52cee7468b194b4048", func := "abacist/abacistlaw11.RowsParts", spec := "rowsParts", inPlace := ["math/bits.Add64"], unfollowed := true, recurses := true, named := ["math/bits.deBruijn64tab"], apart := false, laid := [("math/bits.deBruijn64tab", laid_math_bits_deBruijn64tab)], narrowed := true }
def RowsPartsUptoSaid : Prop := rowsPartsUptoRow.holds Tryd.pinned (OpenSpec.upto rowsPartsSpec)

/-- 'abacistlaw32.GridSums', WHERE WHAT IT READS IS OF BULK AT MOST 1048576: true; the input reads as it did. -/
def gridSumsUptoRow : OpenClaim := { program := "ytpnkcjnemoompaadoor", sum := "df3289af203e42dbc434855da5e3b0918d4614a1de5f8d52cee7468b194b4048", func := "abacist/abacistlaw32.GridSums", spec := "gridSums", inPlace := ["math/bits.Add64"], unfollowed := true, recurses := true, named := ["math/bits.deBruijn64tab"], apart := false, laid := [("math/bits.deBruijn64tab", laid_math_bits_deBruijn64tab)], narrowed := true }
def GridSumsUptoSaid : Prop := gridSumsUptoRow.holds Tryd.pinned (OpenSpec.upto gridSumsSpec)

/-- 'abacistlaw24.PlanChecks', WHERE WHAT IT READS IS OF BULK AT MOST 1048576: true; the input reads as it did. -/
def planChecksUptoRow : OpenClaim := { program := "ytpnkcjnemoompaadoor", sum := "df3289af203e42dbc434855da5e3b0918d4614a1de5f8d52cee7468b194b4048", func := "abacist/abacistlaw24.PlanChecks", spec := "planChecks", inPlace := ["internal/abi.NoEscape", "internal/bytealg.MakeNoZero"], unfollowed := true, recurses := true, named := ["abacist/plan.extents", "internal/strconv.uint64pow10", "math/bits.deBruijn32tab", "math/bits.deBruijn64tab"], apart := false, laid := [("math/bits.deBruijn32tab", laid_math_bits_deBruijn32tab), ("math/bits.deBruijn64tab", laid_math_bits_deBruijn64tab), ("internal/strconv.uint64pow10", laid_internal_strconv_uint64pow10), ("abacist/plan.extents", laid_abacist_plan_extents)], narrowed := true }
def PlanChecksUptoSaid : Prop := planChecksUptoRow.holds Tryd.pinned (OpenSpec.upto planChecksSpec)

end Rows
end Go.Proofs.YtpnkcjnemoompaaDoor
