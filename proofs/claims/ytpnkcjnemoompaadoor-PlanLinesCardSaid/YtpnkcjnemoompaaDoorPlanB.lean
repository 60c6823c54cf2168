import Derived.Test.YtpnkcjnemoompaaDoorPlanA
import Derived.Test.YtpnkcjnemoompaaDoorNums
/-! Plan: what the document's numbers are. -/
namespace Go.Proofs.YtpnkcjnemoompaaDoor.Plan
open Go.RowKit Go.Proofs.YtpnkcjnemoompaaDoor Go.Proofs.YtpnkcjnemoompaaDoor.Ext Go.Proofs.YtpnkcjnemoompaaDoor.PPlan Go.Proofs.YtpnkcjnemoompaaDoor.Pure Go.Proofs.YtpnkcjnemoompaaDoorW.PrintWords Go.Proofs.YtpnkcjnemoompaaDoorW.PrintLast Go.Proofs.YtpnkcjnemoompaaDoorW.PrintMore
set_option linter.unusedVariables false
set_option linter.unusedSimpArgs false
set_option maxRecDepth 100000

theorem Per_is (n : Int) : Ev (fun k => abacistref24_Per.f k n) (decide (0 ≤ n) && perq n.toNat) := by
  have st : ∀ (p q : Int) (r : Bool), p ≤ 512 → wrap64 (2 * p) = q → (n = p → r = true) → (n ≠ p → Ev (fun k => abacistref24_Per.l0 k n q) r) → Ev (fun k => abacistref24_Per.l0 k n p) r := by
    intro p q r hp hq h1 h2
    by_cases h : n = p
    · refine Ev.step (f := fun _ => some r) (fun k => ?_) (Ev.now _)
      simp only [abacistref24_Per.l0]
      rw [if_pos hp, if_pos h, h1 h]
    · refine Ev.step (f := fun k => abacistref24_Per.l0 k n q) (fun k => ?_) (h2 h)
      simp only [abacistref24_Per.l0]
      rw [if_pos hp, if_neg h, hq]
  have hv : ∀ m : Nat, n = (m : Int) → perq m = true → (decide (0 ≤ n) && perq n.toNat) = true := by
    intro m hm h
    subst hm
    simp [h]
  unfold abacistref24_Per.f
  refine st 4 8 _ (by decide) (by unfold wrap64; omega) (fun h => hv 4 h rfl) fun n1 => ?_
  refine st 8 16 _ (by decide) (by unfold wrap64; omega) (fun h => hv 8 h rfl) fun n2 => ?_
  refine st 16 32 _ (by decide) (by unfold wrap64; omega) (fun h => hv 16 h rfl) fun n3 => ?_
  refine st 32 64 _ (by decide) (by unfold wrap64; omega) (fun h => hv 32 h rfl) fun n4 => ?_
  refine st 64 128 _ (by decide) (by unfold wrap64; omega) (fun h => hv 64 h rfl) fun n5 => ?_
  refine st 128 256 _ (by decide) (by unfold wrap64; omega) (fun h => hv 128 h rfl) fun n6 => ?_
  refine st 256 512 _ (by decide) (by unfold wrap64; omega) (fun h => hv 256 h rfl) fun n7 => ?_
  refine st 512 1024 _ (by decide) (by unfold wrap64; omega) (fun h => hv 512 h rfl) fun n8 => ?_
  refine Ev.step (f := fun _ => some (decide (0 ≤ n) && perq n.toNat)) (fun k => ?_) (Ev.now _)
  simp only [abacistref24_Per.l0]
  rw [if_neg (by decide)]
  congr 1
  symm
  apply Bool.eq_false_iff.2
  intro h
  simp only [Bool.and_eq_true, decide_eq_true_eq, perq, Bool.or_eq_true, beq_iff_eq] at h
  omega
theorem powers : ∀ k : Fin 33, abacistref24_power.f 80 (k.val : Int) = some ((2 ^ k.val : Nat) : Int) := of_decide_eq_true (by kernel_rfl)
end Go.Proofs.YtpnkcjnemoompaaDoor.Plan
