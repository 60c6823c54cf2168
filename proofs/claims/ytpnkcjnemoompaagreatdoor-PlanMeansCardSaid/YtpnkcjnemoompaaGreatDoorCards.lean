/-
  DERIVED. GIVEN WITH THE SEED: THE CARDS: each row of YtpnkcjnemoompaaGreatDoorRows.lean that lists a variable, with what it lists TIED to the program's text (the seventh form; the later family's looks); each row that meets fmt, with fmt's text TOLD by the authors' own Lean function (tested against real Go, not proved from fmt's source: count such statements apart). THE CARD IS WHAT COUNTS. Prove the row's statement (the work); the ties are given (YtpnkcjnemoompaaGreatDoorTie.lean); close each card by the builder's one call (the guide's Derived/Test/ToyasCard.lean, 'card_holds'). Laid BY PROGRAM, IN A SANDBOX (cutbox-door.mjs). By AI agents, Wed Nov 11 2026. No macro, syntax, notation, axiom, sorry.
-/
import Derived.Test.YtpnkcjnemoompaaGreatDoorRows
import GoSem.ClaimSeven
namespace Go.Proofs.YtpnkcjnemoompaaGreatDoor
namespace Rows

/-- THE TIED CARD OF 'abacistlaw24.PlanMeans'. -/
def planMeansCard : Claim7 := { stood := { row := planMeansRow, standIns := [], harness := (true, "fad390f7506dd0d16067739e16f924e11b1e6ef4644069d2735adbfa03c5d62e"), looks := false }, kinds := [], alts := [], laidByText := true, laidKinds := [.data, .data, .data, .data], laidTests := true, laidLooks := .later }
def PlanMeansCardSaid : Prop := Claim7.holds Tryz.pinned (.plain (OpenSpec.ofChange planMeansSpec)) planMeansCard

/-- THE TIED CARD OF 'abacistlaw24.PlanApplies'. -/
def planAppliesCard : Claim7 := { stood := { row := planAppliesRow, standIns := [], harness := (true, "fad390f7506dd0d16067739e16f924e11b1e6ef4644069d2735adbfa03c5d62e"), looks := false }, kinds := [], alts := [], laidByText := true, laidKinds := [.data, .data, .data, .data], laidTests := true, laidLooks := .later }
def PlanAppliesCardSaid : Prop := Claim7.holds Tryz.pinned (.plain (OpenSpec.ofChange planAppliesSpec)) planAppliesCard

/-- THE SECOND FORM's CARD OF 'abacistlaw24.PlanMeans'. -/
def planMeansUptoCard : Claim7 := { stood := { row := planMeansUptoRow, standIns := [], harness := (true, "fad390f7506dd0d16067739e16f924e11b1e6ef4644069d2735adbfa03c5d62e"), looks := false }, kinds := [], alts := [], laidByText := true, laidKinds := [.data, .data, .data, .data], laidTests := true, laidLooks := .later }
def PlanMeansUptoCardSaid : Prop := Claim7.holds Tryz.pinned (.plain (OpenSpec.upto planMeansSpec)) planMeansUptoCard

/-- THE SECOND FORM's CARD OF 'abacistlaw24.PlanApplies'. -/
def planAppliesUptoCard : Claim7 := { stood := { row := planAppliesUptoRow, standIns := [], harness := (true, "fad390f7506dd0d16067739e16f924e11b1e6ef4644069d2735adbfa03c5d62e"), looks := false }, kinds := [], alts := [], laidByText := true, laidKinds := [.data, .data, .data, .data], laidTests := true, laidLooks := .later }
def PlanAppliesUptoCardSaid : Prop := Claim7.holds Tryz.pinned (.plain (OpenSpec.upto planAppliesSpec)) planAppliesUptoCard
end Rows
end Go.Proofs.YtpnkcjnemoompaaGreatDoor
