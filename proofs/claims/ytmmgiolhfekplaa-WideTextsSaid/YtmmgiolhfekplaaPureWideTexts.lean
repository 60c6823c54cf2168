/- The printed part of: a number's decimal digits are as the document says. -/
import Derived.Laws.BitsAllLaws
import Derived.OpenShut
import Derived.Test.YtmmgiolhfekplaaPWidex5
import Derived.Test.YtmmgiolhfekplaaWNEv
import Derived.Test.YtmmgiolhfekplaaWideT
set_option linter.unusedVariables false
set_option linter.unusedSimpArgs false
namespace Go.Proofs.Ytmmgiolhfekplaa.Pure
open Go.RowKit Go.Proofs.Ytmmgiolhfekplaa Go.Proofs.Ytmmgiolhfekplaa.PWide Go.Proofs.Ytmmgiolhfekplaa.Ext Go.Proofs.YtmmgiolhfekplaaW.PrintWords Go.Proofs.YtmmgiolhfekplaaW.PrintLast Go.Proofs.YtmmgiolhfekplaaW.PrintMore

theorem WideTexts (v : Nat) (hv : v < 340282366920938463463374607431768211456) : Ev (fun k => abacistlaw01_WideTexts.f k (hiw v) (low v)) true := by
  unfold abacistlaw01_WideTexts.f
  refine Ev.bind awake_ ?_
  simp only [if_true]
  refine Ev.bind (wtext_ v hv) (Ev.bind (rtext_ v hv) ?_)
  simp only [BEq.rfl]
  exact Ev.now _
theorem WideTextsCalls_ (a b : Int) (ha : (Lit.int .u64 a).wf = true) (hb : (Lit.int .u64 b).wf = true) (w : World) :
    Calls Try.prog 6 #[.agg #[.int .u64 a, .int .u64 b]] w fun e w' => e = .returned (.bool true) ∧ Below w.heap.size w w' := by
  have b0 := bounds_u64 ha
  have b1 := bounds_u64 hb
  obtain ⟨v, hv, rfl, rfl⟩ := wide_of a b b0.1 b1.1 b0.2 b1.2
  obtain ⟨k, h⟩ := (WideTexts v hv).rounds
  exact abacistlaw01_WideTexts.calls k _ _ true w h
end Go.Proofs.Ytmmgiolhfekplaa.Pure
