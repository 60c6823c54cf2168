import Derived.Test.YtpnkcjnemoompaaDoorPlanH
import Derived.BigQuiet
import Derived.Deep.QuietTactic
import Derived.StillTailTactics
import Derived.Deep.DeepCutAuto
import Derived.Deep.CutBlock
import Derived.Outline
/-! Plan: PlanTells. -/
namespace Go.Proofs.YtpnkcjnemoompaaDoor.Plan
open Go.RowKit Go.Proofs.YtpnkcjnemoompaaDoor Go.Proofs.YtpnkcjnemoompaaDoor.Ext Go.Proofs.YtpnkcjnemoompaaDoor.PPlan Go.Proofs.YtpnkcjnemoompaaDoor.Pure Go.Proofs.YtpnkcjnemoompaaDoor.Obj Go.Proofs.YtpnkcjnemoompaaDoorW.PrintWords Go.Proofs.YtpnkcjnemoompaaDoorW.PrintLast Go.Proofs.YtpnkcjnemoompaaDoorW.PrintMore
set_option linter.unusedVariables false
set_option linter.unusedSimpArgs false
set_option maxRecDepth 100000

set_option maxHeartbeats 4000000 in
theorem tells_bad (k d per words : Int) (w : World) (hg : ¬ goodq k per = true) (hT : TabP w) : Calls Tryd.prog 10 #[.int .i64 k, .int .i64 d, .int .i64 per, .int .i64 words] w fun e w' => e = .returned (.bool true) ∧ Below w.heap.size w w' := by
  obtain ⟨n2, h2⟩ := (passes_arg k d per words hg).rounds
  obtain ⟨n3, h3⟩ := (Per_is per).rounds
  obtain ⟨c, hc⟩ : ∃ c : Int, c = 1 := ⟨1, rfl⟩
  obtain ⟨r, hr⟩ : ∃ r : List S51, r = [] := ⟨[], rfl⟩
  have K1 : Aside0 (plan_Least.f k per = some (0, 1)) := ⟨by rw [Least_is, if_neg hg, if_neg hg]⟩
  have K2 : Aside0 (plan_Passes.f n2 k d per words = some (r, c)) := ⟨by rw [hr, hc]; exact h2⟩
  have KS : Aside0 (plan_Short.f k per words = some false) := ⟨by rw [Short_is]; simp [shortq, hg]⟩
  have hper : ¬ k < 0 → ¬ k > 32 → (decide (0 ≤ per) && perq per.toNat) = false := fun q1 q2 => Bool.eq_false_iff.2 fun h => hg (by unfold goodq; rw [Bool.and_assoc, h, decide_eq_true (show 0 ≤ k by omega), decide_eq_true (show k ≤ 32 by omega)]; rfl)
  have HPer := Aside0.mk hper
  have HR := Aside0.mk hr
  have HC := Aside0.mk hc
  have K3 := Aside0.mk h3
  have HT := Aside0.mk hT
  clear h2 h3 hg hT hper hr hc
  go_enter Tryd.func10, Tryd.ntmps10
  go_wp2_with fail
  refine (awake_calls _ HT.out).mono ?_
  rintro e w1 ⟨rfl, hb⟩
  have HB1 := Aside0.mk hb
  clear hb
  go_wp2_with fail
  refine (plan_Least.calls k per 0 1 _ K1.out).mono ?_
  rintro e w2 ⟨rfl, hb⟩
  have HB2 := Aside0.mk (below_then HB1.out HB1.out.size hb.below)
  clear hb HB1
  go_wp2_with fail
  refine (plan_Passes.calls n2 k d per words r c _ K2.out).mono ?_
  rintro e w3 ⟨v, rfl, hR, hb⟩
  have HB3 := Aside0.mk (below_then HB2.out HB2.out.size hb)
  have HL3 := Aside0.mk (Kd.R_lower hR HB2.out.size)
  obtain ⟨A, ca, rfl, hca, hCa⟩ := Kd.R_reads hR
  clear hb hR hca hCa HB2
  obtain rfl := HC.out
  obtain rfl := HR.out
  rw [List.length_nil]
  by_cases p1 : k < 0
  · have d1 : decide (k < 0) = true := decide_eq_true p1
    clear p1
    go_wp2_with fail
    refine (plan_Short.calls k per words false _ KS.out).mono ?_
    rintro e w4 ⟨rfl, hb⟩
    have HB4 := Aside0.mk (below_then HB3.out HB3.out.size hb.below)
    clear hb HB3
    go_wp2_with fail
    go_ret
    exact ⟨rfl, HB4.out⟩
  · have d1 : decide (k < 0) = false := decide_eq_false p1
    by_cases p2 : 32 < k
    · have d2 : decide (32 < k) = true := decide_eq_true p2
      clear p1 p2
      go_wp2_with fail
      refine (plan_Short.calls k per words false _ KS.out).mono ?_
      rintro e w4 ⟨rfl, hb⟩
      have HB4 := Aside0.mk (below_then HB3.out HB3.out.size hb.below)
      clear hb HB3
      go_wp2_with fail
      go_ret
      exact ⟨rfl, HB4.out⟩
    · have d2 : decide (32 < k) = false := decide_eq_false p2
      have hf := HPer.out (by omega) (by omega)
      have K4 : Aside0 (abacistref24_Per.f n3 per = some false) := ⟨by rw [K3.out, hf]⟩
      clear p1 p2 hf
      go_wp2_with fail
      refine (abacistref24_Per.calls n3 per false _ K4.out).mono ?_
      rintro e w4 ⟨rfl, hb⟩
      have HB4 := Aside0.mk (below_then HB3.out HB3.out.size hb.below)
      clear hb HB3
      go_wp2_with fail
      refine (plan_Short.calls k per words false _ KS.out).mono ?_
      rintro e w5 ⟨rfl, hb⟩
      have HB5 := Aside0.mk (below_then HB4.out HB4.out.size hb.below)
      clear hb HB4
      go_wp2_with fail
      go_ret
      exact ⟨rfl, HB5.out⟩
end Go.Proofs.YtpnkcjnemoompaaDoor.Plan
