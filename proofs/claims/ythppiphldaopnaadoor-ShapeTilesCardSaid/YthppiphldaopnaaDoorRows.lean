/-
  NARROWER THAN 'FOR EVERY INPUT', by the rows' own cells (each row's printed sentence says how): ShapeSplits: laid · ShapeTiles: laid · ShapePlaces: laid · BlockTurns: laid · RevRows: laid · RevHalves: laid · BlockWords: laid · BlockSwaps: laid · BlockStacks: laid · BlockParts: laid.
  DERIVED. THE GIVEN ROWS OF THIS SEAT. 10 by the template 'for every input the law returns true; each argument reads behind the call as it read before'; 0 by the template 'total and deterministic' (their statements: YthppiphldaopnaaDoorTotals.lean).
  GIVEN WITH THE SEED: the statements are not yours to turn. If you find one false, say at which input.
  Laid BY PROGRAM, IN A SANDBOX (cutbox-rows.mjs): the forced cells as the released guide's own fill.sh prints them over the translation ee11db4a6589391c… (all of the seat's roots in one cut). By AI agents, Wed Nov 11 2026. No macro, syntax, notation, axiom, sorry.
-/
import Derived.Test.YthppiphldaopnaaDoorChecked
import GoSem.Claim
import GoSem.ClaimJoined
import GoSem.ClaimMapViews
import Derived.JoinedTies
import Derived.KernelRfl
namespace Go.Proofs.YthppiphldaopnaaDoor
/- THE CELL 'sum', in the pinned program and in every row, IS THE sha256 OF THE DUMP (.gsa) THAT YthppiphldaopnaaDoorProg.lean LOADS. Nothing in Lean hashes anything: it is a label: what it is worth is what the hold of that sum in a sandbox is worth. -/
noncomputable def Tryd.pinned : Pinned := { name := "ythppiphldaopnaadoor", sum := "ee11db4a6589391c694e27b354878f466929b751d866f8cb22f4b4a98416ca8b", checked := Tryd.checked }
namespace Rows
def none {H : Type} : Left H := { results := [], args := [] }

/- WHAT THE LISTED PACKAGE-LEVEL VARIABLES READ AS WHEN THE CALL BEGINS. Each datum BY PROGRAM (the guide's laid-datum.mjs) off the statement by which the dump's own 'gosem.cut.vars' lays the variable. In a bare row this is a premise. The card (YthppiphldaopnaaDoorCards.lean) ties it to the program's text. -/
def laid_math_bits_deBruijn64tab {H : Type} : DataW H := .agg [.lit (.int .u8 0), .lit (.int .u8 1), .lit (.int .u8 56), .lit (.int .u8 2), .lit (.int .u8 57), .lit (.int .u8 49), .lit (.int .u8 28), .lit (.int .u8 3), .lit (.int .u8 61), .lit (.int .u8 58), .lit (.int .u8 42), .lit (.int .u8 50), .lit (.int .u8 38), .lit (.int .u8 29), .lit (.int .u8 17), .lit (.int .u8 4), .lit (.int .u8 62), .lit (.int .u8 47), .lit (.int .u8 59), .lit (.int .u8 36), .lit (.int .u8 45), .lit (.int .u8 43), .lit (.int .u8 51), .lit (.int .u8 22), .lit (.int .u8 53), .lit (.int .u8 39), .lit (.int .u8 33), .lit (.int .u8 30), .lit (.int .u8 24), .lit (.int .u8 18), .lit (.int .u8 12), .lit (.int .u8 5), .lit (.int .u8 63), .lit (.int .u8 55), .lit (.int .u8 48), .lit (.int .u8 27), .lit (.int .u8 60), .lit (.int .u8 41), .lit (.int .u8 37), .lit (.int .u8 16), .lit (.int .u8 46), .lit (.int .u8 35), .lit (.int .u8 44), .lit (.int .u8 21), .lit (.int .u8 52), .lit (.int .u8 32), .lit (.int .u8 23), .lit (.int .u8 11), .lit (.int .u8 54), .lit (.int .u8 26), .lit (.int .u8 40), .lit (.int .u8 15), .lit (.int .u8 34), .lit (.int .u8 20), .lit (.int .u8 31), .lit (.int .u8 10), .lit (.int .u8 25), .lit (.int .u8 14), .lit (.int .u8 19), .lit (.int .u8 9), .lit (.int .u8 13), .lit (.int .u8 8), .lit (.int .u8 7), .lit (.int .u8 6)]
def laid_math_bits_deBruijn32tab {H : Type} : DataW H := .agg [.lit (.int .u8 0), .lit (.int .u8 1), .lit (.int .u8 28), .lit (.int .u8 2), .lit (.int .u8 29), .lit (.int .u8 14), .lit (.int .u8 24), .lit (.int .u8 3), .lit (.int .u8 30), .lit (.int .u8 22), .lit (.int .u8 20), .lit (.int .u8 15), .lit (.int .u8 25), .lit (.int .u8 17), .lit (.int .u8 4), .lit (.int .u8 8), .lit (.int .u8 31), .lit (.int .u8 27), .lit (.int .u8 13), .lit (.int .u8 23), .lit (.int .u8 21), .lit (.int .u8 19), .lit (.int .u8 16), .lit (.int .u8 7), .lit (.int .u8 26), .lit (.int .u8 12), .lit (.int .u8 18), .lit (.int .u8 6), .lit (.int .u8 11), .lit (.int .u8 5), .lit (.int .u8 10), .lit (.int .u8 9)]

/-- 'abacistlaw06.ShapeSplits': WHATEVER THE INPUT: true; the input reads as it did. -/
def shapeSplitsSpec : ChangeSpec := { name := "shapeSplits", fn := fun _ => fun
  | [d] => { results := [.lit (.bool true)], args := [d] }
  | _ => none }
def shapeSplitsRow : OpenClaim := { program := "ythppiphldaopnaadoor", sum := "ee11db4a6589391c694e27b354878f466929b751d866f8cb22f4b4a98416ca8b", func := "abacist/abacistlaw06.ShapeSplits", spec := "shapeSplits", named := ["math/bits.deBruijn64tab"], apart := false, laid := [("math/bits.deBruijn64tab", laid_math_bits_deBruijn64tab)] }
def ShapeSplitsSaid : Prop := shapeSplitsRow.holds Tryd.pinned (OpenSpec.ofChange shapeSplitsSpec)

/-- ITS FALSE NEIGHBOUR: 'it returns false'. Refute it at one input. -/
def shapeSplitsWrong : ChangeSpec := { name := "shapeSplits", fn := fun _ => fun
  | [d] => { results := [.lit (.bool false)], args := [d] }
  | _ => none }
def ShapeSplitsWrongFalsely : Prop := shapeSplitsRow.holds Tryd.pinned (OpenSpec.ofChange shapeSplitsWrong)

/-- 'abacistlaw06.ShapeTiles': WHATEVER THE INPUT: true; the input reads as it did. -/
def shapeTilesSpec : ChangeSpec := { name := "shapeTiles", fn := fun _ => fun
  | [d1, d2, d3] => { results := [.lit (.bool true)], args := [d1, d2, d3] }
  | _ => none }
def shapeTilesRow : OpenClaim := { program := "ythppiphldaopnaadoor", sum := "ee11db4a6589391c694e27b354878f466929b751d866f8cb22f4b4a98416ca8b", func := "abacist/abacistlaw06.ShapeTiles", spec := "shapeTiles", named := ["math/bits.deBruijn64tab"], apart := false, laid := [("math/bits.deBruijn64tab", laid_math_bits_deBruijn64tab)] }
def ShapeTilesSaid : Prop := shapeTilesRow.holds Tryd.pinned (OpenSpec.ofChange shapeTilesSpec)

/-- ITS FALSE NEIGHBOUR: 'it returns false'. Refute it at one input. -/
def shapeTilesWrong : ChangeSpec := { name := "shapeTiles", fn := fun _ => fun
  | [d1, d2, d3] => { results := [.lit (.bool false)], args := [d1, d2, d3] }
  | _ => none }
def ShapeTilesWrongFalsely : Prop := shapeTilesRow.holds Tryd.pinned (OpenSpec.ofChange shapeTilesWrong)

/-- 'abacistlaw06.ShapePlaces': WHATEVER THE INPUT: true; the input reads as it did. -/
def shapePlacesSpec : ChangeSpec := { name := "shapePlaces", fn := fun _ => fun
  | [d1, d2, d3, d4] => { results := [.lit (.bool true)], args := [d1, d2, d3, d4] }
  | _ => none }
def shapePlacesRow : OpenClaim := { program := "ythppiphldaopnaadoor", sum := "ee11db4a6589391c694e27b354878f466929b751d866f8cb22f4b4a98416ca8b", func := "abacist/abacistlaw06.ShapePlaces", spec := "shapePlaces", named := ["math/bits.deBruijn64tab", "math/bits.deBruijn32tab"], apart := false, laid := [("math/bits.deBruijn32tab", laid_math_bits_deBruijn32tab), ("math/bits.deBruijn64tab", laid_math_bits_deBruijn64tab)] }
def ShapePlacesSaid : Prop := shapePlacesRow.holds Tryd.pinned (OpenSpec.ofChange shapePlacesSpec)

/-- ITS FALSE NEIGHBOUR: 'it returns false'. Refute it at one input. -/
def shapePlacesWrong : ChangeSpec := { name := "shapePlaces", fn := fun _ => fun
  | [d1, d2, d3, d4] => { results := [.lit (.bool false)], args := [d1, d2, d3, d4] }
  | _ => none }
def ShapePlacesWrongFalsely : Prop := shapePlacesRow.holds Tryd.pinned (OpenSpec.ofChange shapePlacesWrong)

/-- 'abacistlaw12.BlockTurns': WHATEVER THE INPUT: true; the input reads as it did. -/
def blockTurnsSpec : ChangeSpec := { name := "blockTurns", fn := fun _ => fun
  | [d1, d2, d3, d4] => { results := [.lit (.bool true)], args := [d1, d2, d3, d4] }
  | _ => none }
def blockTurnsRow : OpenClaim := { program := "ythppiphldaopnaadoor", sum := "ee11db4a6589391c694e27b354878f466929b751d866f8cb22f4b4a98416ca8b", func := "abacist/abacistlaw12.BlockTurns", spec := "blockTurns", named := ["math/bits.deBruijn64tab"], apart := false, laid := [("math/bits.deBruijn64tab", laid_math_bits_deBruijn64tab)] }
def BlockTurnsSaid : Prop := blockTurnsRow.holds Tryd.pinned (OpenSpec.ofChange blockTurnsSpec)

/-- ITS FALSE NEIGHBOUR: 'it returns false'. Refute it at one input. -/
def blockTurnsWrong : ChangeSpec := { name := "blockTurns", fn := fun _ => fun
  | [d1, d2, d3, d4] => { results := [.lit (.bool false)], args := [d1, d2, d3, d4] }
  | _ => none }
def BlockTurnsWrongFalsely : Prop := blockTurnsRow.holds Tryd.pinned (OpenSpec.ofChange blockTurnsWrong)

/-- 'abacistlaw05.RevRows': WHATEVER THE INPUT: true; the input reads as it did. -/
def revRowsSpec : ChangeSpec := { name := "revRows", fn := fun _ => fun
  | [d1, d2] => { results := [.lit (.bool true)], args := [d1, d2] }
  | _ => none }
def revRowsRow : OpenClaim := { program := "ythppiphldaopnaadoor", sum := "ee11db4a6589391c694e27b354878f466929b751d866f8cb22f4b4a98416ca8b", func := "abacist/abacistlaw05.RevRows", spec := "revRows", unfollowed := true, recurses := true, named := ["math/bits.deBruijn64tab"], apart := false, laid := [("math/bits.deBruijn64tab", laid_math_bits_deBruijn64tab)] }
def RevRowsSaid : Prop := revRowsRow.holds Tryd.pinned (OpenSpec.ofChange revRowsSpec)

/-- ITS FALSE NEIGHBOUR: 'it returns false'. Refute it at one input. -/
def revRowsWrong : ChangeSpec := { name := "revRows", fn := fun _ => fun
  | [d1, d2] => { results := [.lit (.bool false)], args := [d1, d2] }
  | _ => none }
def RevRowsWrongFalsely : Prop := revRowsRow.holds Tryd.pinned (OpenSpec.ofChange revRowsWrong)

/-- 'abacistlaw05.RevHalves': WHATEVER THE INPUT: true; the input reads as it did. -/
def revHalvesSpec : ChangeSpec := { name := "revHalves", fn := fun _ => fun
  | [d1, d2] => { results := [.lit (.bool true)], args := [d1, d2] }
  | _ => none }
def revHalvesRow : OpenClaim := { program := "ythppiphldaopnaadoor", sum := "ee11db4a6589391c694e27b354878f466929b751d866f8cb22f4b4a98416ca8b", func := "abacist/abacistlaw05.RevHalves", spec := "revHalves", unfollowed := true, recurses := true, named := ["math/bits.deBruijn64tab"], apart := false, laid := [("math/bits.deBruijn64tab", laid_math_bits_deBruijn64tab)] }
def RevHalvesSaid : Prop := revHalvesRow.holds Tryd.pinned (OpenSpec.ofChange revHalvesSpec)

/-- ITS FALSE NEIGHBOUR: 'it returns false'. Refute it at one input. -/
def revHalvesWrong : ChangeSpec := { name := "revHalves", fn := fun _ => fun
  | [d1, d2] => { results := [.lit (.bool false)], args := [d1, d2] }
  | _ => none }
def RevHalvesWrongFalsely : Prop := revHalvesRow.holds Tryd.pinned (OpenSpec.ofChange revHalvesWrong)

/-- 'abacistlaw12.BlockWords': WHATEVER THE INPUT: true; the input reads as it did. -/
def blockWordsSpec : ChangeSpec := { name := "blockWords", fn := fun _ => fun
  | [d1, d2, d3, d4, d5] => { results := [.lit (.bool true)], args := [d1, d2, d3, d4, d5] }
  | _ => none }
def blockWordsRow : OpenClaim := { program := "ythppiphldaopnaadoor", sum := "ee11db4a6589391c694e27b354878f466929b751d866f8cb22f4b4a98416ca8b", func := "abacist/abacistlaw12.BlockWords", spec := "blockWords", named := ["math/bits.deBruijn64tab"], apart := false, laid := [("math/bits.deBruijn64tab", laid_math_bits_deBruijn64tab)] }
def BlockWordsSaid : Prop := blockWordsRow.holds Tryd.pinned (OpenSpec.ofChange blockWordsSpec)

/-- ITS FALSE NEIGHBOUR: 'it returns false'. Refute it at one input. -/
def blockWordsWrong : ChangeSpec := { name := "blockWords", fn := fun _ => fun
  | [d1, d2, d3, d4, d5] => { results := [.lit (.bool false)], args := [d1, d2, d3, d4, d5] }
  | _ => none }
def BlockWordsWrongFalsely : Prop := blockWordsRow.holds Tryd.pinned (OpenSpec.ofChange blockWordsWrong)

/-- 'abacistlaw12.BlockSwaps': WHATEVER THE INPUT: true; the input reads as it did. -/
def blockSwapsSpec : ChangeSpec := { name := "blockSwaps", fn := fun _ => fun
  | [d1, d2, d3, d4, d5] => { results := [.lit (.bool true)], args := [d1, d2, d3, d4, d5] }
  | _ => none }
def blockSwapsRow : OpenClaim := { program := "ythppiphldaopnaadoor", sum := "ee11db4a6589391c694e27b354878f466929b751d866f8cb22f4b4a98416ca8b", func := "abacist/abacistlaw12.BlockSwaps", spec := "blockSwaps", named := ["math/bits.deBruijn64tab"], apart := false, laid := [("math/bits.deBruijn64tab", laid_math_bits_deBruijn64tab)] }
def BlockSwapsSaid : Prop := blockSwapsRow.holds Tryd.pinned (OpenSpec.ofChange blockSwapsSpec)

/-- ITS FALSE NEIGHBOUR: 'it returns false'. Refute it at one input. -/
def blockSwapsWrong : ChangeSpec := { name := "blockSwaps", fn := fun _ => fun
  | [d1, d2, d3, d4, d5] => { results := [.lit (.bool false)], args := [d1, d2, d3, d4, d5] }
  | _ => none }
def BlockSwapsWrongFalsely : Prop := blockSwapsRow.holds Tryd.pinned (OpenSpec.ofChange blockSwapsWrong)

/-- 'abacistlaw12.BlockStacks': WHATEVER THE INPUT: true; the input reads as it did. -/
def blockStacksSpec : ChangeSpec := { name := "blockStacks", fn := fun _ => fun
  | [d1, d2, d3] => { results := [.lit (.bool true)], args := [d1, d2, d3] }
  | _ => none }
def blockStacksRow : OpenClaim := { program := "ythppiphldaopnaadoor", sum := "ee11db4a6589391c694e27b354878f466929b751d866f8cb22f4b4a98416ca8b", func := "abacist/abacistlaw12.BlockStacks", spec := "blockStacks", named := ["math/bits.deBruijn64tab"], apart := false, laid := [("math/bits.deBruijn64tab", laid_math_bits_deBruijn64tab)] }
def BlockStacksSaid : Prop := blockStacksRow.holds Tryd.pinned (OpenSpec.ofChange blockStacksSpec)

/-- ITS FALSE NEIGHBOUR: 'it returns false'. Refute it at one input. -/
def blockStacksWrong : ChangeSpec := { name := "blockStacks", fn := fun _ => fun
  | [d1, d2, d3] => { results := [.lit (.bool false)], args := [d1, d2, d3] }
  | _ => none }
def BlockStacksWrongFalsely : Prop := blockStacksRow.holds Tryd.pinned (OpenSpec.ofChange blockStacksWrong)

/-- 'abacistlaw12.BlockParts': WHATEVER THE INPUT: true; the input reads as it did. -/
def blockPartsSpec : ChangeSpec := { name := "blockParts", fn := fun _ => fun
  | [d1, d2, d3, d4] => { results := [.lit (.bool true)], args := [d1, d2, d3, d4] }
  | _ => none }
def blockPartsRow : OpenClaim := { program := "ythppiphldaopnaadoor", sum := "ee11db4a6589391c694e27b354878f466929b751d866f8cb22f4b4a98416ca8b", func := "abacist/abacistlaw12.BlockParts", spec := "blockParts", named := ["math/bits.deBruijn64tab"], apart := false, laid := [("math/bits.deBruijn64tab", laid_math_bits_deBruijn64tab)] }
def BlockPartsSaid : Prop := blockPartsRow.holds Tryd.pinned (OpenSpec.ofChange blockPartsSpec)

/-- ITS FALSE NEIGHBOUR: 'it returns false'. Refute it at one input. -/
def blockPartsWrong : ChangeSpec := { name := "blockParts", fn := fun _ => fun
  | [d1, d2, d3, d4] => { results := [.lit (.bool false)], args := [d1, d2, d3, d4] }
  | _ => none }
def BlockPartsWrongFalsely : Prop := blockPartsRow.holds Tryd.pinned (OpenSpec.ofChange blockPartsWrong)

/- THE SECOND FORM. 'bulk': how many values and letters a reading holds, each counted each time it is reached (what is shared counts as often as it is met; a slice's spare places count too). A statement '..UptoSaid' is the law's where the arguments, and the package variables that the reading takes, are together of bulk at most 1048576: NARROWER than '..Said'. Prove '..Said' where nothing that the law and all that it calls make is longer than what came in: it says more and counts as full. Else prove '..UptoSaid'. A law counts once. -/
mutual
def uptoBulk {H : Type} : DataW H → Nat
  | .lit (.string bytes) => bytes.length + 1
  | .lit _ => 1
  | .nil => 1
  | .ptr d => uptoBulk d + 1
  | .slice elems spare => uptoBulkAll elems + uptoBulkAll spare + 1
  | .agg parts => uptoBulkAll parts + 1
  | .iface _ d => uptoBulk d + 1
  | .map entries => uptoBulkEntries entries + 1
  | .held _ => 1
def uptoBulkAll {H : Type} : List (DataW H) → Nat
  | [] => 0
  | d :: r => uptoBulk d + uptoBulkAll r
def uptoBulkEntries {H : Type} : List (Lit × DataW H) → Nat
  | [] => 0
  | x :: r => uptoBulkEntry x + uptoBulkEntries r
def uptoBulkEntry {H : Type} : Lit × DataW H → Nat
  | (.string bytes, d) => bytes.length + uptoBulk d + 1
  | (_, d) => uptoBulk d + 1
 end
def uptoSmall : (H : Type) → List (DataW H) → Bool := fun _ ds => decide (uptoBulkAll ds ≤ 1048576)
def OpenSpec.upto (s : _root_.Go.ChangeSpec) : _root_.Go.OpenSpec := { _root_.Go.OpenSpec.ofChange s with cond := some uptoSmall }

/-- 'abacistlaw06.ShapeSplits', WHERE WHAT IT READS IS OF BULK AT MOST 1048576: true; the input reads as it did. -/
def shapeSplitsUptoRow : OpenClaim := { program := "ythppiphldaopnaadoor", sum := "ee11db4a6589391c694e27b354878f466929b751d866f8cb22f4b4a98416ca8b", func := "abacist/abacistlaw06.ShapeSplits", spec := "shapeSplits", named := ["math/bits.deBruijn64tab"], apart := false, laid := [("math/bits.deBruijn64tab", laid_math_bits_deBruijn64tab)], narrowed := true }
def ShapeSplitsUptoSaid : Prop := shapeSplitsUptoRow.holds Tryd.pinned (OpenSpec.upto shapeSplitsSpec)

/-- 'abacistlaw06.ShapeTiles', WHERE WHAT IT READS IS OF BULK AT MOST 1048576: true; the input reads as it did. -/
def shapeTilesUptoRow : OpenClaim := { program := "ythppiphldaopnaadoor", sum := "ee11db4a6589391c694e27b354878f466929b751d866f8cb22f4b4a98416ca8b", func := "abacist/abacistlaw06.ShapeTiles", spec := "shapeTiles", named := ["math/bits.deBruijn64tab"], apart := false, laid := [("math/bits.deBruijn64tab", laid_math_bits_deBruijn64tab)], narrowed := true }
def ShapeTilesUptoSaid : Prop := shapeTilesUptoRow.holds Tryd.pinned (OpenSpec.upto shapeTilesSpec)

/-- 'abacistlaw06.ShapePlaces', WHERE WHAT IT READS IS OF BULK AT MOST 1048576: true; the input reads as it did. -/
def shapePlacesUptoRow : OpenClaim := { program := "ythppiphldaopnaadoor", sum := "ee11db4a6589391c694e27b354878f466929b751d866f8cb22f4b4a98416ca8b", func := "abacist/abacistlaw06.ShapePlaces", spec := "shapePlaces", named := ["math/bits.deBruijn64tab", "math/bits.deBruijn32tab"], apart := false, laid := [("math/bits.deBruijn32tab", laid_math_bits_deBruijn32tab), ("math/bits.deBruijn64tab", laid_math_bits_deBruijn64tab)], narrowed := true }
def ShapePlacesUptoSaid : Prop := shapePlacesUptoRow.holds Tryd.pinned (OpenSpec.upto shapePlacesSpec)

/-- 'abacistlaw12.BlockTurns', WHERE WHAT IT READS IS OF BULK AT MOST 1048576: true; the input reads as it did. -/
def blockTurnsUptoRow : OpenClaim := { program := "ythppiphldaopnaadoor", sum := "ee11db4a6589391c694e27b354878f466929b751d866f8cb22f4b4a98416ca8b", func := "abacist/abacistlaw12.BlockTurns", spec := "blockTurns", named := ["math/bits.deBruijn64tab"], apart := false, laid := [("math/bits.deBruijn64tab", laid_math_bits_deBruijn64tab)], narrowed := true }
def BlockTurnsUptoSaid : Prop := blockTurnsUptoRow.holds Tryd.pinned (OpenSpec.upto blockTurnsSpec)

/-- 'abacistlaw05.RevRows', WHERE WHAT IT READS IS OF BULK AT MOST 1048576: true; the input reads as it did. -/
def revRowsUptoRow : OpenClaim := { program := "ythppiphldaopnaadoor", sum := "ee11db4a6589391c694e27b354878f466929b751d866f8cb22f4b4a98416ca8b", func := "abacist/abacistlaw05.RevRows", spec := "revRows", unfollowed := true, recurses := true, named := ["math/bits.deBruijn64tab"], apart := false, laid := [("math/bits.deBruijn64tab", laid_math_bits_deBruijn64tab)], narrowed := true }
def RevRowsUptoSaid : Prop := revRowsUptoRow.holds Tryd.pinned (OpenSpec.upto revRowsSpec)

/-- 'abacistlaw05.RevHalves', WHERE WHAT IT READS IS OF BULK AT MOST 1048576: true; the input reads as it did. -/
def revHalvesUptoRow : OpenClaim := { program := "ythppiphldaopnaadoor", sum := "ee11db4a6589391c694e27b354878f466929b751d866f8cb22f4b4a98416ca8b", func := "abacist/abacistlaw05.RevHalves", spec := "revHalves", unfollowed := true, recurses := true, named := ["math/bits.deBruijn64tab"], apart := false, laid := [("math/bits.deBruijn64tab", laid_math_bits_deBruijn64tab)], narrowed := true }
def RevHalvesUptoSaid : Prop := revHalvesUptoRow.holds Tryd.pinned (OpenSpec.upto revHalvesSpec)

/-- 'abacistlaw12.BlockWords', WHERE WHAT IT READS IS OF BULK AT MOST 1048576: true; the input reads as it did. -/
def blockWordsUptoRow : OpenClaim := { program := "ythppiphldaopnaadoor", sum := "ee11db4a6589391c694e27b354878f466929b751d866f8cb22f4b4a98416ca8b", func := "abacist/abacistlaw12.BlockWords", spec := "blockWords", named := ["math/bits.deBruijn64tab"], apart := false, laid := [("math/bits.deBruijn64tab", laid_math_bits_deBruijn64tab)], narrowed := true }
def BlockWordsUptoSaid : Prop := blockWordsUptoRow.holds Tryd.pinned (OpenSpec.upto blockWordsSpec)

/-- 'abacistlaw12.BlockSwaps', WHERE WHAT IT READS IS OF BULK AT MOST 1048576: true; the input reads as it did. -/
def blockSwapsUptoRow : OpenClaim := { program := "ythppiphldaopnaadoor", sum := "ee11db4a6589391c694e27b354878f466929b751d866f8cb22f4b4a98416ca8b", func := "abacist/abacistlaw12.BlockSwaps", spec := "blockSwaps", named := ["math/bits.deBruijn64tab"], apart := false, laid := [("math/bits.deBruijn64tab", laid_math_bits_deBruijn64tab)], narrowed := true }
def BlockSwapsUptoSaid : Prop := blockSwapsUptoRow.holds Tryd.pinned (OpenSpec.upto blockSwapsSpec)

/-- 'abacistlaw12.BlockStacks', WHERE WHAT IT READS IS OF BULK AT MOST 1048576: true; the input reads as it did. -/
def blockStacksUptoRow : OpenClaim := { program := "ythppiphldaopnaadoor", sum := "ee11db4a6589391c694e27b354878f466929b751d866f8cb22f4b4a98416ca8b", func := "abacist/abacistlaw12.BlockStacks", spec := "blockStacks", named := ["math/bits.deBruijn64tab"], apart := false, laid := [("math/bits.deBruijn64tab", laid_math_bits_deBruijn64tab)], narrowed := true }
def BlockStacksUptoSaid : Prop := blockStacksUptoRow.holds Tryd.pinned (OpenSpec.upto blockStacksSpec)

/-- 'abacistlaw12.BlockParts', WHERE WHAT IT READS IS OF BULK AT MOST 1048576: true; the input reads as it did. -/
def blockPartsUptoRow : OpenClaim := { program := "ythppiphldaopnaadoor", sum := "ee11db4a6589391c694e27b354878f466929b751d866f8cb22f4b4a98416ca8b", func := "abacist/abacistlaw12.BlockParts", spec := "blockParts", named := ["math/bits.deBruijn64tab"], apart := false, laid := [("math/bits.deBruijn64tab", laid_math_bits_deBruijn64tab)], narrowed := true }
def BlockPartsUptoSaid : Prop := blockPartsUptoRow.holds Tryd.pinned (OpenSpec.upto blockPartsSpec)

end Rows
end Go.Proofs.YthppiphldaopnaaDoor
