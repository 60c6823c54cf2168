/-
  DERIVED. GIVEN WITH THE SEED: THE CARDS: each row of YthppiphldaopnaaDoorRows.lean that lists a variable, with what it lists TIED to the program's text (the seventh form; the later family's looks); each row that meets fmt, with fmt's text TOLD by the authors' own Lean function (tested against real Go, not proved from fmt's source: count such statements apart). THE CARD IS WHAT COUNTS. Prove the row's statement (the work); the ties are given (YthppiphldaopnaaDoorTie.lean); close each card by the builder's one call (the guide's Derived/Test/ToyasCard.lean, 'card_holds'). Laid BY PROGRAM, IN A SANDBOX (cutbox-door.mjs). By AI agents, Wed Nov 11 2026. No macro, syntax, notation, axiom, sorry.
-/
import Derived.Test.YthppiphldaopnaaDoorRows
import GoSem.ClaimSeven
namespace Go.Proofs.YthppiphldaopnaaDoor
namespace Rows

/-- THE TIED CARD OF 'abacistlaw06.ShapeSplits'. -/
def shapeSplitsCard : Claim7 := { stood := { row := shapeSplitsRow, standIns := [], harness := (true, "bd36033e82c044c237638941c59eb71c6b6c8de17c766f9db306cb310a148b28"), looks := false }, kinds := [], alts := [], laidByText := true, laidKinds := [.data], laidTests := true, laidLooks := .later }
def ShapeSplitsCardSaid : Prop := Claim7.holds Tryd.pinned (.plain (OpenSpec.ofChange shapeSplitsSpec)) shapeSplitsCard

/-- THE TIED CARD OF 'abacistlaw06.ShapeTiles'. -/
def shapeTilesCard : Claim7 := { stood := { row := shapeTilesRow, standIns := [], harness := (true, "bd36033e82c044c237638941c59eb71c6b6c8de17c766f9db306cb310a148b28"), looks := false }, kinds := [], alts := [], laidByText := true, laidKinds := [.data], laidTests := true, laidLooks := .later }
def ShapeTilesCardSaid : Prop := Claim7.holds Tryd.pinned (.plain (OpenSpec.ofChange shapeTilesSpec)) shapeTilesCard

/-- THE TIED CARD OF 'abacistlaw06.ShapePlaces'. -/
def shapePlacesCard : Claim7 := { stood := { row := shapePlacesRow, standIns := [], harness := (true, "bd36033e82c044c237638941c59eb71c6b6c8de17c766f9db306cb310a148b28"), looks := false }, kinds := [], alts := [], laidByText := true, laidKinds := [.data, .data], laidTests := true, laidLooks := .later }
def ShapePlacesCardSaid : Prop := Claim7.holds Tryd.pinned (.plain (OpenSpec.ofChange shapePlacesSpec)) shapePlacesCard

/-- THE TIED CARD OF 'abacistlaw12.BlockTurns'. -/
def blockTurnsCard : Claim7 := { stood := { row := blockTurnsRow, standIns := [], harness := (true, "bd36033e82c044c237638941c59eb71c6b6c8de17c766f9db306cb310a148b28"), looks := false }, kinds := [], alts := [], laidByText := true, laidKinds := [.data], laidTests := true, laidLooks := .later }
def BlockTurnsCardSaid : Prop := Claim7.holds Tryd.pinned (.plain (OpenSpec.ofChange blockTurnsSpec)) blockTurnsCard

/-- THE TIED CARD OF 'abacistlaw05.RevRows'. -/
def revRowsCard : Claim7 := { stood := { row := revRowsRow, standIns := [], harness := (true, "bd36033e82c044c237638941c59eb71c6b6c8de17c766f9db306cb310a148b28"), looks := false }, kinds := [], alts := [], laidByText := true, laidKinds := [.data], laidTests := true, laidLooks := .later }
def RevRowsCardSaid : Prop := Claim7.holds Tryd.pinned (.plain (OpenSpec.ofChange revRowsSpec)) revRowsCard

/-- THE TIED CARD OF 'abacistlaw05.RevHalves'. -/
def revHalvesCard : Claim7 := { stood := { row := revHalvesRow, standIns := [], harness := (true, "bd36033e82c044c237638941c59eb71c6b6c8de17c766f9db306cb310a148b28"), looks := false }, kinds := [], alts := [], laidByText := true, laidKinds := [.data], laidTests := true, laidLooks := .later }
def RevHalvesCardSaid : Prop := Claim7.holds Tryd.pinned (.plain (OpenSpec.ofChange revHalvesSpec)) revHalvesCard

/-- THE TIED CARD OF 'abacistlaw12.BlockWords'. -/
def blockWordsCard : Claim7 := { stood := { row := blockWordsRow, standIns := [], harness := (true, "bd36033e82c044c237638941c59eb71c6b6c8de17c766f9db306cb310a148b28"), looks := false }, kinds := [], alts := [], laidByText := true, laidKinds := [.data], laidTests := true, laidLooks := .later }
def BlockWordsCardSaid : Prop := Claim7.holds Tryd.pinned (.plain (OpenSpec.ofChange blockWordsSpec)) blockWordsCard

/-- THE TIED CARD OF 'abacistlaw12.BlockSwaps'. -/
def blockSwapsCard : Claim7 := { stood := { row := blockSwapsRow, standIns := [], harness := (true, "bd36033e82c044c237638941c59eb71c6b6c8de17c766f9db306cb310a148b28"), looks := false }, kinds := [], alts := [], laidByText := true, laidKinds := [.data], laidTests := true, laidLooks := .later }
def BlockSwapsCardSaid : Prop := Claim7.holds Tryd.pinned (.plain (OpenSpec.ofChange blockSwapsSpec)) blockSwapsCard

/-- THE TIED CARD OF 'abacistlaw12.BlockStacks'. -/
def blockStacksCard : Claim7 := { stood := { row := blockStacksRow, standIns := [], harness := (true, "bd36033e82c044c237638941c59eb71c6b6c8de17c766f9db306cb310a148b28"), looks := false }, kinds := [], alts := [], laidByText := true, laidKinds := [.data], laidTests := true, laidLooks := .later }
def BlockStacksCardSaid : Prop := Claim7.holds Tryd.pinned (.plain (OpenSpec.ofChange blockStacksSpec)) blockStacksCard

/-- THE TIED CARD OF 'abacistlaw12.BlockParts'. -/
def blockPartsCard : Claim7 := { stood := { row := blockPartsRow, standIns := [], harness := (true, "bd36033e82c044c237638941c59eb71c6b6c8de17c766f9db306cb310a148b28"), looks := false }, kinds := [], alts := [], laidByText := true, laidKinds := [.data], laidTests := true, laidLooks := .later }
def BlockPartsCardSaid : Prop := Claim7.holds Tryd.pinned (.plain (OpenSpec.ofChange blockPartsSpec)) blockPartsCard

/-- THE SECOND FORM's CARD OF 'abacistlaw06.ShapeSplits'. -/
def shapeSplitsUptoCard : Claim7 := { stood := { row := shapeSplitsUptoRow, standIns := [], harness := (true, "bd36033e82c044c237638941c59eb71c6b6c8de17c766f9db306cb310a148b28"), looks := false }, kinds := [], alts := [], laidByText := true, laidKinds := [.data], laidTests := true, laidLooks := .later }
def ShapeSplitsUptoCardSaid : Prop := Claim7.holds Tryd.pinned (.plain (OpenSpec.upto shapeSplitsSpec)) shapeSplitsUptoCard

/-- THE SECOND FORM's CARD OF 'abacistlaw06.ShapeTiles'. -/
def shapeTilesUptoCard : Claim7 := { stood := { row := shapeTilesUptoRow, standIns := [], harness := (true, "bd36033e82c044c237638941c59eb71c6b6c8de17c766f9db306cb310a148b28"), looks := false }, kinds := [], alts := [], laidByText := true, laidKinds := [.data], laidTests := true, laidLooks := .later }
def ShapeTilesUptoCardSaid : Prop := Claim7.holds Tryd.pinned (.plain (OpenSpec.upto shapeTilesSpec)) shapeTilesUptoCard

/-- THE SECOND FORM's CARD OF 'abacistlaw06.ShapePlaces'. -/
def shapePlacesUptoCard : Claim7 := { stood := { row := shapePlacesUptoRow, standIns := [], harness := (true, "bd36033e82c044c237638941c59eb71c6b6c8de17c766f9db306cb310a148b28"), looks := false }, kinds := [], alts := [], laidByText := true, laidKinds := [.data, .data], laidTests := true, laidLooks := .later }
def ShapePlacesUptoCardSaid : Prop := Claim7.holds Tryd.pinned (.plain (OpenSpec.upto shapePlacesSpec)) shapePlacesUptoCard

/-- THE SECOND FORM's CARD OF 'abacistlaw12.BlockTurns'. -/
def blockTurnsUptoCard : Claim7 := { stood := { row := blockTurnsUptoRow, standIns := [], harness := (true, "bd36033e82c044c237638941c59eb71c6b6c8de17c766f9db306cb310a148b28"), looks := false }, kinds := [], alts := [], laidByText := true, laidKinds := [.data], laidTests := true, laidLooks := .later }
def BlockTurnsUptoCardSaid : Prop := Claim7.holds Tryd.pinned (.plain (OpenSpec.upto blockTurnsSpec)) blockTurnsUptoCard

/-- THE SECOND FORM's CARD OF 'abacistlaw05.RevRows'. -/
def revRowsUptoCard : Claim7 := { stood := { row := revRowsUptoRow, standIns := [], harness := (true, "bd36033e82c044c237638941c59eb71c6b6c8de17c766f9db306cb310a148b28"), looks := false }, kinds := [], alts := [], laidByText := true, laidKinds := [.data], laidTests := true, laidLooks := .later }
def RevRowsUptoCardSaid : Prop := Claim7.holds Tryd.pinned (.plain (OpenSpec.upto revRowsSpec)) revRowsUptoCard

/-- THE SECOND FORM's CARD OF 'abacistlaw05.RevHalves'. -/
def revHalvesUptoCard : Claim7 := { stood := { row := revHalvesUptoRow, standIns := [], harness := (true, "bd36033e82c044c237638941c59eb71c6b6c8de17c766f9db306cb310a148b28"), looks := false }, kinds := [], alts := [], laidByText := true, laidKinds := [.data], laidTests := true, laidLooks := .later }
def RevHalvesUptoCardSaid : Prop := Claim7.holds Tryd.pinned (.plain (OpenSpec.upto revHalvesSpec)) revHalvesUptoCard

/-- THE SECOND FORM's CARD OF 'abacistlaw12.BlockWords'. -/
def blockWordsUptoCard : Claim7 := { stood := { row := blockWordsUptoRow, standIns := [], harness := (true, "bd36033e82c044c237638941c59eb71c6b6c8de17c766f9db306cb310a148b28"), looks := false }, kinds := [], alts := [], laidByText := true, laidKinds := [.data], laidTests := true, laidLooks := .later }
def BlockWordsUptoCardSaid : Prop := Claim7.holds Tryd.pinned (.plain (OpenSpec.upto blockWordsSpec)) blockWordsUptoCard

/-- THE SECOND FORM's CARD OF 'abacistlaw12.BlockSwaps'. -/
def blockSwapsUptoCard : Claim7 := { stood := { row := blockSwapsUptoRow, standIns := [], harness := (true, "bd36033e82c044c237638941c59eb71c6b6c8de17c766f9db306cb310a148b28"), looks := false }, kinds := [], alts := [], laidByText := true, laidKinds := [.data], laidTests := true, laidLooks := .later }
def BlockSwapsUptoCardSaid : Prop := Claim7.holds Tryd.pinned (.plain (OpenSpec.upto blockSwapsSpec)) blockSwapsUptoCard

/-- THE SECOND FORM's CARD OF 'abacistlaw12.BlockStacks'. -/
def blockStacksUptoCard : Claim7 := { stood := { row := blockStacksUptoRow, standIns := [], harness := (true, "bd36033e82c044c237638941c59eb71c6b6c8de17c766f9db306cb310a148b28"), looks := false }, kinds := [], alts := [], laidByText := true, laidKinds := [.data], laidTests := true, laidLooks := .later }
def BlockStacksUptoCardSaid : Prop := Claim7.holds Tryd.pinned (.plain (OpenSpec.upto blockStacksSpec)) blockStacksUptoCard

/-- THE SECOND FORM's CARD OF 'abacistlaw12.BlockParts'. -/
def blockPartsUptoCard : Claim7 := { stood := { row := blockPartsUptoRow, standIns := [], harness := (true, "bd36033e82c044c237638941c59eb71c6b6c8de17c766f9db306cb310a148b28"), looks := false }, kinds := [], alts := [], laidByText := true, laidKinds := [.data], laidTests := true, laidLooks := .later }
def BlockPartsUptoCardSaid : Prop := Claim7.holds Tryd.pinned (.plain (OpenSpec.upto blockPartsSpec)) blockPartsUptoCard
end Rows
end Go.Proofs.YthppiphldaopnaaDoor
