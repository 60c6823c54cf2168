/- The product of any two words is as the document says (the sum of shifted ones), whichever comes first: for every pair of words of 64 bits, without a condition. -/
import Derived.Laws.BitsAllLaws
import Derived.OpenShut
import Derived.Test.YtmmgiolhfekplaaPWidex4
import Derived.Test.YtmmgiolhfekplaaWNEv
import Derived.Test.YtmmgiolhfekplaaWideT
set_option linter.unusedVariables false
set_option linter.unusedSimpArgs false
namespace Go.Proofs.Ytmmgiolhfekplaa.Pure
open Go.RowKit Go.Proofs.Ytmmgiolhfekplaa Go.Proofs.Ytmmgiolhfekplaa.PWide Go.Proofs.Ytmmgiolhfekplaa.Ext Go.Proofs.YtmmgiolhfekplaaW.PrintWords Go.Proofs.YtmmgiolhfekplaaW.PrintLast Go.Proofs.YtmmgiolhfekplaaW.PrintMore

theorem WideMuls : abacistlaw01_WideMuls.Pure := by
  intro a0 a1 h0 h1
  have b0 := bounds_u64 h0
  have b1 := bounds_u64 h1
  obtain ⟨a, rfl⟩ := Int.eq_ofNat_of_zero_le b0.1
  obtain ⟨b, rfl⟩ := Int.eq_ofNat_of_zero_le b1.1
  refine Ev.rounds (g := fun k => abacistlaw01_WideMuls.f k (a : Int) (b : Int)) ?_
  have hab := wmul_ a b (by omega) (by omega)
  have hba := wmul_ b a (by omega) (by omega)
  rw [Nat.mul_comm] at hba
  have hr := rmul_ a b (by omega) (by omega)
  unfold abacistlaw01_WideMuls.f
  refine Ev.bind awake_ ?_
  simp only [if_true]
  rw [hab, hba]
  simp only [Option.bind_some]
  refine Ev.bind hr ?_
  simp only [BEq.rfl, Bool.and_self, if_true]
  exact Ev.now _
end Go.Proofs.Ytmmgiolhfekplaa.Pure
