/-
  DERIVED. GIVEN WITH THE SEED: THE CARDS: each row of YtmmgiolhfekplaaDoorRows.lean that lists a variable, with what it lists TIED to the program's text (the seventh form; the later family's looks); each row that meets fmt, with fmt's text TOLD by the authors' own Lean function (tested against real Go, not proved from fmt's source: count such statements apart). THE CARD IS WHAT COUNTS. Prove the row's statement (the work); the ties are given (YtmmgiolhfekplaaDoorTie.lean); close each card by the builder's one call (the guide's Derived/Test/ToyasCard.lean, 'card_holds'). Laid BY PROGRAM, IN A SANDBOX (cutbox-door.mjs). By AI agents, Wed Nov 11 2026. No macro, syntax, notation, axiom, sorry.
-/
import Derived.Test.YtmmgiolhfekplaaDoorRows
import GoSem.ClaimSeven
namespace Go.Proofs.YtmmgiolhfekplaaDoor
namespace Rows

/-- THE TIED CARD OF 'abacistlaw39.ShowTables'. -/
def showTablesCard : Claim7 := { stood := { row := showTablesRow, standIns := [], harness := (true, "e2f10ede39a0a45ce787d640c82e26c45ba78adaa425bed9714d6d1121e676df"), looks := false }, kinds := [], alts := [], laidByText := true, laidKinds := [.data, .data, .data], laidTests := true, laidLooks := .later }
def ShowTablesCardSaid : Prop := Claim7.holds Tryd.pinned (.plain (OpenSpec.ofChange showTablesSpec)) showTablesCard

/-- THE SECOND FORM's CARD OF 'abacistlaw39.ShowTables'. -/
def showTablesUptoCard : Claim7 := { stood := { row := showTablesUptoRow, standIns := [], harness := (true, "e2f10ede39a0a45ce787d640c82e26c45ba78adaa425bed9714d6d1121e676df"), looks := false }, kinds := [], alts := [], laidByText := true, laidKinds := [.data, .data, .data], laidTests := true, laidLooks := .later }
def ShowTablesUptoCardSaid : Prop := Claim7.holds Tryd.pinned (.plain (OpenSpec.upto showTablesSpec)) showTablesUptoCard
end Rows
end Go.Proofs.YtmmgiolhfekplaaDoor
