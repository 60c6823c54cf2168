/- The printed part of: shifted numbers, and how many bits a number has, are as the document says. -/
import Derived.Laws.BitsAllLaws
import Derived.OpenShut
import Derived.Test.YtmmgiolhfekplaaPWidex9
import Derived.Test.YtmmgiolhfekplaaWNEv
import Derived.Test.YtmmgiolhfekplaaWideT
set_option linter.unusedVariables false
set_option linter.unusedSimpArgs false
namespace Go.Proofs.Ytmmgiolhfekplaa.Pure
open Go.RowKit Go.Proofs.Ytmmgiolhfekplaa Go.Proofs.Ytmmgiolhfekplaa.PWide Go.Proofs.Ytmmgiolhfekplaa.Ext Go.Proofs.YtmmgiolhfekplaaW.PrintWords Go.Proofs.YtmmgiolhfekplaaW.PrintLast Go.Proofs.YtmmgiolhfekplaaW.PrintMore

theorem WideShifts (v : Nat) (n : Int) (hv : v < 340282366920938463463374607431768211456) (hn : -9223372036854775808 ≤ n) (hn2 : n ≤ 9223372036854775807) : Ev (fun k => abacistlaw01_WideShifts.f k (hiw v) (low v) n) true := by
  obtain ⟨a, ha, ha2, hl⟩ := wlen_ v hv
  obtain ⟨b, hb, hr⟩ := rlen_ v hv
  obtain rfl := ha.uniq hb
  unfold abacistlaw01_WideShifts.f
  refine Ev.bind awake_ ?_
  simp only [if_true]
  rw [wshl_ v n hv hn2 hn, wshr_ v n hv hn2 hn, hl]
  simp only [Option.bind_some]
  refine Ev.bind (rshl_ v n hv hn2) ?_
  simp only [BEq.rfl, Bool.and_self, if_true]
  refine Ev.bind (rshr_ v n hv hn2) ?_
  simp only [BEq.rfl, Bool.and_self, if_true]
  refine Ev.bind hr ?_
  simp only [BEq.rfl]
  exact Ev.now _
theorem WideShiftsCalls_ (a b n : Int) (ha : (Lit.int .u64 a).wf = true) (hb : (Lit.int .u64 b).wf = true) (hn : (Lit.int .i64 n).wf = true) (w : World) :
    Calls Try.prog 8 #[.agg #[.int .u64 a, .int .u64 b], .int .i64 n] w fun e w' => e = .returned (.bool true) ∧ Below w.heap.size w w' := by
  have b0 := bounds_u64 ha
  have b1 := bounds_u64 hb
  have b2 := bounds_i64 hn
  obtain ⟨v, hv, rfl, rfl⟩ := wide_of a b b0.1 b1.1 b0.2 b1.2
  obtain ⟨k, h⟩ := (WideShifts v n hv b2.1 b2.2).rounds
  exact abacistlaw01_WideShifts.calls k _ _ _ true w h
end Go.Proofs.Ytmmgiolhfekplaa.Pure
