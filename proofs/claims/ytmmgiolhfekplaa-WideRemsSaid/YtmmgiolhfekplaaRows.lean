/-
  No cell of these rows narrows 'for every input' (looked for: loops, veiled, ifaces, maps, wideKeys, modest, calm, conditions, laid).
  DERIVED. THE GIVEN ROWS OF THIS SEAT. 8 by the template 'for every input the law returns true; each argument reads behind the call as it read before'; 0 by the template 'total and deterministic' (their statements: YtmmgiolhfekplaaTotals.lean).
  GIVEN WITH THE SEED: the statements are not yours to turn. If you find one false, say at which input.
  Laid BY PROGRAM, IN A SANDBOX (cutbox-rows.mjs): the forced cells as the released guide's own fill.sh prints them over the translation 3efe974d4e40817f… (all of the seat's roots in one cut). By AI agents, Wed Nov 11 2026. No macro, syntax, notation, axiom, sorry.
-/
import Derived.Test.YtmmgiolhfekplaaChecked
import GoSem.Claim
import GoSem.ClaimJoined
import GoSem.ClaimMapViews
import Derived.JoinedTies
import Derived.KernelRfl
namespace Go.Proofs.Ytmmgiolhfekplaa
/- THE CELL 'sum', in the pinned program and in every row, IS THE sha256 OF THE DUMP (.gsa) THAT YtmmgiolhfekplaaProg.lean LOADS. Nothing in Lean hashes anything: it is a label: what it is worth is what the hold of that sum in a sandbox is worth. -/
noncomputable def Try.pinned : Pinned := { name := "ytmmgiolhfekplaa", sum := "3efe974d4e40817faff5518cfdcf858490bd186a13a7ff414793c75aa312ec4b", checked := Try.checked }
namespace Rows
def none {H : Type} : Left H := { results := [], args := [] }

/-- 'abacistlaw39.ShowDiffers': WHATEVER THE INPUT: true; the input reads as it did. -/
def showDiffersSpec : ChangeSpec := { name := "showDiffers", fn := fun _ => fun
  | [d1, d2, d3] => { results := [.lit (.bool true)], args := [d1, d2, d3] }
  | _ => none }
def showDiffersRow : OpenClaim := { program := "ytmmgiolhfekplaa", sum := "3efe974d4e40817faff5518cfdcf858490bd186a13a7ff414793c75aa312ec4b", func := "abacist/abacistlaw39.ShowDiffers", spec := "showDiffers", inPlace := ["internal/abi.NoEscape"], apart := false }
def ShowDiffersSaid : Prop := showDiffersRow.holds Try.pinned (OpenSpec.ofChange showDiffersSpec)

/-- ITS FALSE NEIGHBOUR: 'it returns false'. Refute it at one input. -/
def showDiffersWrong : ChangeSpec := { name := "showDiffers", fn := fun _ => fun
  | [d1, d2, d3] => { results := [.lit (.bool false)], args := [d1, d2, d3] }
  | _ => none }
def ShowDiffersWrongFalsely : Prop := showDiffersRow.holds Try.pinned (OpenSpec.ofChange showDiffersWrong)

/-- 'abacistlaw39.ShowHex': WHATEVER THE INPUT: true; the input reads as it did. -/
def showHexSpec : ChangeSpec := { name := "showHex", fn := fun _ => fun
  | [d1, d2] => { results := [.lit (.bool true)], args := [d1, d2] }
  | _ => none }
def showHexRow : OpenClaim := { program := "ytmmgiolhfekplaa", sum := "3efe974d4e40817faff5518cfdcf858490bd186a13a7ff414793c75aa312ec4b", func := "abacist/abacistlaw39.ShowHex", spec := "showHex", inPlace := ["internal/abi.NoEscape", "internal/bytealg.IndexByteString"], apart := false }
def ShowHexSaid : Prop := showHexRow.holds Try.pinned (OpenSpec.ofChange showHexSpec)

/-- ITS FALSE NEIGHBOUR: 'it returns false'. Refute it at one input. -/
def showHexWrong : ChangeSpec := { name := "showHex", fn := fun _ => fun
  | [d1, d2] => { results := [.lit (.bool false)], args := [d1, d2] }
  | _ => none }
def ShowHexWrongFalsely : Prop := showHexRow.holds Try.pinned (OpenSpec.ofChange showHexWrong)

/-- 'abacistlaw01.WideMuls': WHATEVER THE INPUT: true; the input reads as it did. -/
def wideMulsSpec : ChangeSpec := { name := "wideMuls", fn := fun _ => fun
  | [d1, d2] => { results := [.lit (.bool true)], args := [d1, d2] }
  | _ => none }
def wideMulsRow : OpenClaim := { program := "ytmmgiolhfekplaa", sum := "3efe974d4e40817faff5518cfdcf858490bd186a13a7ff414793c75aa312ec4b", func := "abacist/abacistlaw01.WideMuls", spec := "wideMuls", named := ["math/bits.divideError", "math/bits.overflowError"], apart := false }
def WideMulsSaid : Prop := wideMulsRow.holds Try.pinned (OpenSpec.ofChange wideMulsSpec)

/-- ITS FALSE NEIGHBOUR: 'it returns false'. Refute it at one input. -/
def wideMulsWrong : ChangeSpec := { name := "wideMuls", fn := fun _ => fun
  | [d1, d2] => { results := [.lit (.bool false)], args := [d1, d2] }
  | _ => none }
def WideMulsWrongFalsely : Prop := wideMulsRow.holds Try.pinned (OpenSpec.ofChange wideMulsWrong)

/-- 'abacistlaw01.WideTexts': WHATEVER THE INPUT: true; the input reads as it did. -/
def wideTextsSpec : ChangeSpec := { name := "wideTexts", fn := fun _ => fun
  | [d] => { results := [.lit (.bool true)], args := [d] }
  | _ => none }
def wideTextsRow : OpenClaim := { program := "ytmmgiolhfekplaa", sum := "3efe974d4e40817faff5518cfdcf858490bd186a13a7ff414793c75aa312ec4b", func := "abacist/abacistlaw01.WideTexts", spec := "wideTexts", named := ["math/bits.divideError", "math/bits.overflowError"], apart := false }
def WideTextsSaid : Prop := wideTextsRow.holds Try.pinned (OpenSpec.ofChange wideTextsSpec)

/-- ITS FALSE NEIGHBOUR: 'it returns false'. Refute it at one input. -/
def wideTextsWrong : ChangeSpec := { name := "wideTexts", fn := fun _ => fun
  | [d] => { results := [.lit (.bool false)], args := [d] }
  | _ => none }
def WideTextsWrongFalsely : Prop := wideTextsRow.holds Try.pinned (OpenSpec.ofChange wideTextsWrong)

/-- 'abacistlaw01.WideRows': WHATEVER THE INPUT: true; the input reads as it did. -/
def wideRowsSpec : ChangeSpec := { name := "wideRows", fn := fun _ => fun
  | [d1, d2] => { results := [.lit (.bool true)], args := [d1, d2] }
  | _ => none }
def wideRowsRow : OpenClaim := { program := "ytmmgiolhfekplaa", sum := "3efe974d4e40817faff5518cfdcf858490bd186a13a7ff414793c75aa312ec4b", func := "abacist/abacistlaw01.WideRows", spec := "wideRows", inPlace := ["math/bits.Add64"], named := ["math/bits.divideError", "math/bits.overflowError"], apart := false }
def WideRowsSaid : Prop := wideRowsRow.holds Try.pinned (OpenSpec.ofChange wideRowsSpec)

/-- ITS FALSE NEIGHBOUR: 'it returns false'. Refute it at one input. -/
def wideRowsWrong : ChangeSpec := { name := "wideRows", fn := fun _ => fun
  | [d1, d2] => { results := [.lit (.bool false)], args := [d1, d2] }
  | _ => none }
def WideRowsWrongFalsely : Prop := wideRowsRow.holds Try.pinned (OpenSpec.ofChange wideRowsWrong)

/-- 'abacistlaw01.WideShifts': WHATEVER THE INPUT: true; the input reads as it did. -/
def wideShiftsSpec : ChangeSpec := { name := "wideShifts", fn := fun _ => fun
  | [d1, d2] => { results := [.lit (.bool true)], args := [d1, d2] }
  | _ => none }
def wideShiftsRow : OpenClaim := { program := "ytmmgiolhfekplaa", sum := "3efe974d4e40817faff5518cfdcf858490bd186a13a7ff414793c75aa312ec4b", func := "abacist/abacistlaw01.WideShifts", spec := "wideShifts", named := ["math/bits.divideError", "math/bits.overflowError"], apart := false }
def WideShiftsSaid : Prop := wideShiftsRow.holds Try.pinned (OpenSpec.ofChange wideShiftsSpec)

/-- ITS FALSE NEIGHBOUR: 'it returns false'. Refute it at one input. -/
def wideShiftsWrong : ChangeSpec := { name := "wideShifts", fn := fun _ => fun
  | [d1, d2] => { results := [.lit (.bool false)], args := [d1, d2] }
  | _ => none }
def WideShiftsWrongFalsely : Prop := wideShiftsRow.holds Try.pinned (OpenSpec.ofChange wideShiftsWrong)

/-- 'abacistlaw01.WideRems': WHATEVER THE INPUT: true; the input reads as it did. -/
def wideRemsSpec : ChangeSpec := { name := "wideRems", fn := fun _ => fun
  | [d1, d2] => { results := [.lit (.bool true)], args := [d1, d2] }
  | _ => none }
def wideRemsRow : OpenClaim := { program := "ytmmgiolhfekplaa", sum := "3efe974d4e40817faff5518cfdcf858490bd186a13a7ff414793c75aa312ec4b", func := "abacist/abacistlaw01.WideRems", spec := "wideRems", inPlace := ["math/bits.Add64"], named := ["math/bits.divideError", "math/bits.overflowError"], apart := false }
def WideRemsSaid : Prop := wideRemsRow.holds Try.pinned (OpenSpec.ofChange wideRemsSpec)

/-- ITS FALSE NEIGHBOUR: 'it returns false'. Refute it at one input. -/
def wideRemsWrong : ChangeSpec := { name := "wideRems", fn := fun _ => fun
  | [d1, d2] => { results := [.lit (.bool false)], args := [d1, d2] }
  | _ => none }
def WideRemsWrongFalsely : Prop := wideRemsRow.holds Try.pinned (OpenSpec.ofChange wideRemsWrong)

/-- 'abacistlaw01.WideSums': WHATEVER THE INPUT: true; the input reads as it did. -/
def wideSumsSpec : ChangeSpec := { name := "wideSums", fn := fun _ => fun
  | [d1, d2] => { results := [.lit (.bool true)], args := [d1, d2] }
  | _ => none }
def wideSumsRow : OpenClaim := { program := "ytmmgiolhfekplaa", sum := "3efe974d4e40817faff5518cfdcf858490bd186a13a7ff414793c75aa312ec4b", func := "abacist/abacistlaw01.WideSums", spec := "wideSums", inPlace := ["math/bits.Add64", "math/bits.Sub64"], named := ["math/bits.divideError", "math/bits.overflowError"], apart := false }
def WideSumsSaid : Prop := wideSumsRow.holds Try.pinned (OpenSpec.ofChange wideSumsSpec)

/-- ITS FALSE NEIGHBOUR: 'it returns false'. Refute it at one input. -/
def wideSumsWrong : ChangeSpec := { name := "wideSums", fn := fun _ => fun
  | [d1, d2] => { results := [.lit (.bool false)], args := [d1, d2] }
  | _ => none }
def WideSumsWrongFalsely : Prop := wideSumsRow.holds Try.pinned (OpenSpec.ofChange wideSumsWrong)

/- THE SECOND FORM. 'bulk': how many values and letters a reading holds, each counted each time it is reached (what is shared counts as often as it is met; a slice's spare places count too). A statement '..UptoSaid' is the law's where the arguments, and the package variables that the reading takes, are together of bulk at most 1048576: NARROWER than '..Said'. Prove '..Said' where nothing that the law and all that it calls make is longer than what came in: it says more and counts as full. Else prove '..UptoSaid'. A law counts once. -/
mutual
def uptoBulk {H : Type} : DataW H → Nat
  | .lit (.string bytes) => bytes.length + 1
  | .lit _ => 1
  | .nil => 1
  | .ptr d => uptoBulk d + 1
  | .slice elems spare => uptoBulkAll elems + uptoBulkAll spare + 1
  | .agg parts => uptoBulkAll parts + 1
  | .iface _ d => uptoBulk d + 1
  | .map entries => uptoBulkEntries entries + 1
  | .held _ => 1
def uptoBulkAll {H : Type} : List (DataW H) → Nat
  | [] => 0
  | d :: r => uptoBulk d + uptoBulkAll r
def uptoBulkEntries {H : Type} : List (Lit × DataW H) → Nat
  | [] => 0
  | x :: r => uptoBulkEntry x + uptoBulkEntries r
def uptoBulkEntry {H : Type} : Lit × DataW H → Nat
  | (.string bytes, d) => bytes.length + uptoBulk d + 1
  | (_, d) => uptoBulk d + 1
 end
def uptoSmall : (H : Type) → List (DataW H) → Bool := fun _ ds => decide (uptoBulkAll ds ≤ 1048576)
def OpenSpec.upto (s : _root_.Go.ChangeSpec) : _root_.Go.OpenSpec := { _root_.Go.OpenSpec.ofChange s with cond := some uptoSmall }

/-- 'abacistlaw39.ShowDiffers', WHERE WHAT IT READS IS OF BULK AT MOST 1048576: true; the input reads as it did. -/
def showDiffersUptoRow : OpenClaim := { program := "ytmmgiolhfekplaa", sum := "3efe974d4e40817faff5518cfdcf858490bd186a13a7ff414793c75aa312ec4b", func := "abacist/abacistlaw39.ShowDiffers", spec := "showDiffers", inPlace := ["internal/abi.NoEscape"], apart := false, narrowed := true }
def ShowDiffersUptoSaid : Prop := showDiffersUptoRow.holds Try.pinned (OpenSpec.upto showDiffersSpec)

/-- 'abacistlaw39.ShowHex', WHERE WHAT IT READS IS OF BULK AT MOST 1048576: true; the input reads as it did. -/
def showHexUptoRow : OpenClaim := { program := "ytmmgiolhfekplaa", sum := "3efe974d4e40817faff5518cfdcf858490bd186a13a7ff414793c75aa312ec4b", func := "abacist/abacistlaw39.ShowHex", spec := "showHex", inPlace := ["internal/abi.NoEscape", "internal/bytealg.IndexByteString"], apart := false, narrowed := true }
def ShowHexUptoSaid : Prop := showHexUptoRow.holds Try.pinned (OpenSpec.upto showHexSpec)

/-- 'abacistlaw01.WideMuls', WHERE WHAT IT READS IS OF BULK AT MOST 1048576: true; the input reads as it did. -/
def wideMulsUptoRow : OpenClaim := { program := "ytmmgiolhfekplaa", sum := "3efe974d4e40817faff5518cfdcf858490bd186a13a7ff414793c75aa312ec4b", func := "abacist/abacistlaw01.WideMuls", spec := "wideMuls", named := ["math/bits.divideError", "math/bits.overflowError"], apart := false, narrowed := true }
def WideMulsUptoSaid : Prop := wideMulsUptoRow.holds Try.pinned (OpenSpec.upto wideMulsSpec)

/-- 'abacistlaw01.WideTexts', WHERE WHAT IT READS IS OF BULK AT MOST 1048576: true; the input reads as it did. -/
def wideTextsUptoRow : OpenClaim := { program := "ytmmgiolhfekplaa", sum := "3efe974d4e40817faff5518cfdcf858490bd186a13a7ff414793c75aa312ec4b", func := "abacist/abacistlaw01.WideTexts", spec := "wideTexts", named := ["math/bits.divideError", "math/bits.overflowError"], apart := false, narrowed := true }
def WideTextsUptoSaid : Prop := wideTextsUptoRow.holds Try.pinned (OpenSpec.upto wideTextsSpec)

/-- 'abacistlaw01.WideRows', WHERE WHAT IT READS IS OF BULK AT MOST 1048576: true; the input reads as it did. -/
def wideRowsUptoRow : OpenClaim := { program := "ytmmgiolhfekplaa", sum := "3efe974d4e40817faff5518cfdcf858490bd186a13a7ff414793c75aa312ec4b", func := "abacist/abacistlaw01.WideRows", spec := "wideRows", inPlace := ["math/bits.Add64"], named := ["math/bits.divideError", "math/bits.overflowError"], apart := false, narrowed := true }
def WideRowsUptoSaid : Prop := wideRowsUptoRow.holds Try.pinned (OpenSpec.upto wideRowsSpec)

/-- 'abacistlaw01.WideShifts', WHERE WHAT IT READS IS OF BULK AT MOST 1048576: true; the input reads as it did. -/
def wideShiftsUptoRow : OpenClaim := { program := "ytmmgiolhfekplaa", sum := "3efe974d4e40817faff5518cfdcf858490bd186a13a7ff414793c75aa312ec4b", func := "abacist/abacistlaw01.WideShifts", spec := "wideShifts", named := ["math/bits.divideError", "math/bits.overflowError"], apart := false, narrowed := true }
def WideShiftsUptoSaid : Prop := wideShiftsUptoRow.holds Try.pinned (OpenSpec.upto wideShiftsSpec)

/-- 'abacistlaw01.WideRems', WHERE WHAT IT READS IS OF BULK AT MOST 1048576: true; the input reads as it did. -/
def wideRemsUptoRow : OpenClaim := { program := "ytmmgiolhfekplaa", sum := "3efe974d4e40817faff5518cfdcf858490bd186a13a7ff414793c75aa312ec4b", func := "abacist/abacistlaw01.WideRems", spec := "wideRems", inPlace := ["math/bits.Add64"], named := ["math/bits.divideError", "math/bits.overflowError"], apart := false, narrowed := true }
def WideRemsUptoSaid : Prop := wideRemsUptoRow.holds Try.pinned (OpenSpec.upto wideRemsSpec)

/-- 'abacistlaw01.WideSums', WHERE WHAT IT READS IS OF BULK AT MOST 1048576: true; the input reads as it did. -/
def wideSumsUptoRow : OpenClaim := { program := "ytmmgiolhfekplaa", sum := "3efe974d4e40817faff5518cfdcf858490bd186a13a7ff414793c75aa312ec4b", func := "abacist/abacistlaw01.WideSums", spec := "wideSums", inPlace := ["math/bits.Add64", "math/bits.Sub64"], named := ["math/bits.divideError", "math/bits.overflowError"], apart := false, narrowed := true }
def WideSumsUptoSaid : Prop := wideSumsUptoRow.holds Try.pinned (OpenSpec.upto wideSumsSpec)

end Rows
end Go.Proofs.Ytmmgiolhfekplaa
