import Derived.Test.YthppiphldaopnaaDoorTilC
import Derived.Test.YthppiphldaopnaaDoorTilD
import Derived.Test.YthppiphldaopnaaDoorObj
import Derived.Test.YthppiphldaopnaaDoorPShapex1
import Derived.Test.YthppiphldaopnaaDoorPShapex2
import Derived.Test.YthppiphldaopnaaDoorPShapex4
import Derived.BigQuiet
import Derived.Deep.QuietTactic
import Derived.StillTailTactics
import Derived.Deep.DeepCutAuto
import Derived.Deep.CutBlock
import Derived.Outline
/-! Tiles: the law, the row. -/
namespace Go.Proofs.YthppiphldaopnaaDoor.Tiles
open Go.RowKit Go.Proofs.YthppiphldaopnaaDoor Go.Proofs.YthppiphldaopnaaDoor.Ext Go.Proofs.YthppiphldaopnaaDoor.PShape Go.Proofs.YthppiphldaopnaaDoor.PTil Go.Proofs.YthppiphldaopnaaDoor.Pure Go.Proofs.YthppiphldaopnaaDoor.Obj Go.Proofs.YthppiphldaopnaaDoorW.PrintWords Go.Proofs.YthppiphldaopnaaDoorW.PrintLast Go.Proofs.YthppiphldaopnaaDoorW.PrintMore
set_option linter.unusedVariables false
set_option linter.unusedSimpArgs false
set_option maxRecDepth 100000

theorem ShapeTilesRow (R C h v : Int) (w : World) (hT : TabOK w) : Calls Tryd.prog 4 #[.agg #[.int .i64 R, .int .i64 C], .int .i64 h, .int .i64 v] w fun e w1 => e = .returned (.bool true) ∧ Below w.heap.size w w1 := by
  by_cases hg : GoodS R C
  · obtain ⟨R, C, rfl, rfl, gx0, gy0, _⟩ := good_bounds hg
    by_cases hRC : R * C ≤ 256
    · by_cases hh : h < 1 ∨ v < 1
      · exact tiles_arg_ R C h v w hg hRC hh hT
      · obtain ⟨h, rfl⟩ := Int.eq_ofNat_of_zero_le (show 0 ≤ h by omega)
        obtain ⟨v, rfl⟩ := Int.eq_ofNat_of_zero_le (show 0 ≤ v by omega)
        exact tiles_in R C h v w hg hRC (by omega) (by omega) hT
    · by_cases hR1 : 256 < R
      · exact tiles_big1 R C h v w hg hR1 hT
      · exact tiles_big2 R C h v w hg (by omega) (by omega) hT
  · by_cases hh : h < 1 ∨ v < 1
    · exact tiles_bad R C h v w hg hh hT
    · exact tiles_no R C h v w hg (fun q => hh (.inl q)) (fun q => hh (.inr q)) hT
end Go.Proofs.YthppiphldaopnaaDoor.Tiles
