import Derived.Test.YtpnkcjnemoompaaDoorPPlanx3
/-! Plan: what the numbers are. -/
namespace Go.Proofs.YtpnkcjnemoompaaDoor.Plan
open Go.RowKit Go.Proofs.YtpnkcjnemoompaaDoor Go.Proofs.YtpnkcjnemoompaaDoor.Ext Go.Proofs.YtpnkcjnemoompaaDoor.PPlan Go.Proofs.YtpnkcjnemoompaaDoorW.PrintWords Go.Proofs.YtpnkcjnemoompaaDoorW.PrintLast Go.Proofs.YtpnkcjnemoompaaDoorW.PrintMore
set_option linter.unusedVariables false
set_option linter.unusedSimpArgs false
set_option maxRecDepth 100000

/-- A sector's words. -/
def perq (n : Nat) : Bool := n == 4 || n == 8 || n == 16 || n == 32 || n == 64 || n == 128 || n == 256 || n == 512
theorem per_bits : ∀ n : Fin 513, 4 ≤ n.val → ((Go.bits .and .i64 (n.val : Int) (wrap64 ((n.val : Int) - 1))) == 0) = perq n.val := of_decide_eq_true (by kernel_rfl)
def goodq (k per : Int) : Bool := decide (0 ≤ k) && decide (k ≤ 32) && decide (0 ≤ per) && perq per.toNat
theorem perq_le {n : Nat} (h : perq n = true) : 4 ≤ n ∧ n ≤ 512 := by
  simp only [perq, Bool.or_eq_true, beq_iff_eq] at h
  omega
theorem good_is (k per : Int) : plan_good.f k per = some (goodq k per) := by
  unfold plan_good.f goodq
  by_cases h1 : k ≥ 0
  · rw [if_pos h1, decide_eq_true (show 0 ≤ k from h1)]
    by_cases h2 : k ≤ 32
    · rw [if_pos h2, decide_eq_true h2]
      by_cases h3 : per ≥ 4
      · rw [if_pos h3, decide_eq_true (show 0 ≤ per by omega)]
        obtain ⟨n, rfl⟩ := Int.eq_ofNat_of_zero_le (show 0 ≤ per by omega)
        by_cases h4 : (n : Int) ≤ 512
        · rw [if_pos h4]
          have := per_bits ⟨n, by omega⟩ (by show 4 ≤ n; omega)
          rw [show (Go.bits .and .i64 (n : Int) (wrap64 ((n : Int) - 1)) == 0) = perq n from this]
          simp
        · rw [if_neg h4]
          have : perq n = false := Bool.eq_false_iff.2 fun h => by have := perq_le h; omega
          simp [this]
      · rw [if_neg h3]
        have : (decide (0 ≤ per) && perq per.toNat) = false := Bool.eq_false_iff.2 fun h => by
          simp only [Bool.and_eq_true, decide_eq_true_eq] at h
          have := perq_le h.2
          omega
        simp [Bool.and_assoc, this]
    · rw [if_neg h2, decide_eq_false h2]; simp
  · rw [if_neg h1, decide_eq_false (show ¬ 0 ≤ k from h1)]; simp
/-- Shifts. -/
theorem shl_all : ∀ k : Fin 33, shl .i64 2 (IntKind.u64.wrap (k.val : Int)) = ((2 * 2 ^ k.val : Nat) : Int) ∧ 0 ≤ IntKind.u64.wrap (k.val : Int) ∧ shl .i64 1 (IntKind.u64.wrap (k.val : Int)) = ((2 ^ k.val : Nat) : Int) := of_decide_eq_true (by kernel_rfl)
theorem half_all : ∀ k : Fin 33, wrap64 (Int.tdiv (wrap64 ((k.val : Int) + 1)) 2) = (((k.val + 1) / 2 : Nat) : Int) ∧ wrap64 (Int.tdiv (k.val : Int) 2) = ((k.val / 2 : Nat) : Int) ∧ wrap64 ((k.val : Int) - ((k.val / 2 : Nat) : Int)) = ((k.val - k.val / 2 : Nat) : Int) := of_decide_eq_true (by kernel_rfl)
theorem pow_lt {k : Nat} (h : k ≤ 32) : 2 ^ k ≤ 4294967296 := by
  have := Nat.pow_le_pow_right (show 0 < 2 by decide) h
  simpa using this
theorem wrap_is (z : Nat) (h : z ≤ 9223372036854775807) : wrap64 (z : Int) = (z : Int) := by unfold wrap64; omega
theorem least_is (k per : Nat) (hk : k ≤ 32) (hp : per ≤ 512) : plan_least.f (k : Int) (per : Int) = some ((2 * 2 ^ ((k + 1) / 2) + per : Nat) : Int) := by
  have h1 := (half_all ⟨k, by omega⟩).1
  have h2 := shl_all ⟨(k + 1) / 2, by omega⟩
  simp only at h1 h2
  unfold plan_least.f
  rw [h1, if_pos h2.2.1, h2.1, ← Int.natCast_add, wrap_is _ (by have := pow_lt (k := (k + 1) / 2) (by omega); omega)]
theorem Least_is (k per : Int) : plan_Least.f k per = some (if goodq k per = true then ((2 * 2 ^ ((k.toNat + 1) / 2) + per.toNat : Nat) : Int) else 0, if goodq k per = true then 0 else 1) := by
  unfold plan_Least.f
  rw [good_is, Option.bind_some]
  by_cases h : goodq k per = true
  · rw [if_pos h, if_pos h, if_pos h]
    simp only [goodq, Bool.and_eq_true, decide_eq_true_eq] at h
    obtain ⟨⟨⟨h1, h2⟩, h3⟩, h4⟩ := h
    have := perq_le h4
    have e := least_is k.toNat per.toNat (by omega) (by omega)
    rw [Int.toNat_of_nonneg h1, Int.toNat_of_nonneg h3] at e
    rw [e, Option.bind_some]
  · rw [if_neg h, if_neg h, if_neg h]
/-- Whether the short road is taken. -/
def shortq (k per words : Int) : Bool := goodq k per && decide (((2 * 2 ^ k.toNat : Nat) : Int) + per ≤ words)
theorem Short_is (k per words : Int) : plan_Short.f k per words = some (shortq k per words) := by
  unfold plan_Short.f shortq
  rw [good_is, Option.bind_some]
  by_cases h : goodq k per = true
  · rw [if_pos h, h]
    simp only [goodq, Bool.and_eq_true, decide_eq_true_eq] at h
    obtain ⟨⟨⟨h1, h2⟩, h3⟩, h4⟩ := h
    have := perq_le h4
    obtain ⟨k, rfl⟩ := Int.eq_ofNat_of_zero_le h1
    obtain ⟨per, rfl⟩ := Int.eq_ofNat_of_zero_le h3
    have h5 := shl_all ⟨k, by omega⟩
    simp only at h5
    rw [if_pos h5.2.1, h5.1, ← Int.natCast_add, wrap_is _ (by have := pow_lt (k := k) (by omega); simp at this ⊢; omega)]
    simp
  · rw [if_neg h]
    rw [Bool.eq_false_iff.2 h]
    rfl
/-- The two ways to a share. -/
theorem shares : ∀ k : Fin 33, plan_share.f 80 (k.val : Int) 1 = abacistref08_Share.f 80 (k.val : Int) ∧ (plan_share.f 80 (k.val : Int) 1).isSome = true := of_decide_eq_true (by kernel_rfl)
end Go.Proofs.YtpnkcjnemoompaaDoor.Plan
