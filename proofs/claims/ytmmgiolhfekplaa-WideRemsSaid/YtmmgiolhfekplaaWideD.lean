import Derived.Laws.BitsAllLaws
import Derived.OpenShut
import Derived.Test.YtmmgiolhfekplaaPWidex2
import Derived.Test.YtmmgiolhfekplaaPWidex6
import Derived.Test.YtmmgiolhfekplaaWNEv
import Derived.Test.YtmmgiolhfekplaaWideC
set_option linter.unusedVariables false
set_option linter.unusedSimpArgs false
namespace Go.Proofs.Ytmmgiolhfekplaa.Pure
open Go.RowKit Go.Proofs.Ytmmgiolhfekplaa Go.Proofs.Ytmmgiolhfekplaa.PWide Go.Proofs.Ytmmgiolhfekplaa.Ext Go.Proofs.YtmmgiolhfekplaaW.PrintWords Go.Proofs.YtmmgiolhfekplaaW.PrintLast Go.Proofs.YtmmgiolhfekplaaW.PrintMore

theorem shr_add_ge (v s i n x : Nat) (h : n ≤ i) (hs : s = v % 2 ^ i) (hx : v / 2 ^ i % 2 = x) : v % 2 ^ (i + 1) / 2 ^ n = s / 2 ^ n + x * 2 ^ (i - n) := by
  rw [mod_succ, hx, ← hs, pow_split h, ← Nat.mul_assoc, Nat.mul_right_comm, Nat.add_mul_div_right _ _ (Nat.two_pow_pos n)]
theorem shr_small (v i n : Nat) (h : i ≤ n) : v % 2 ^ i / 2 ^ n = 0 := Nat.div_eq_of_lt (Nat.lt_of_lt_of_le (Nat.mod_lt _ (Nat.two_pow_pos i)) (pow_mono h))
theorem shr_room (v i n : Nat) (h : n ≤ i) : v % 2 ^ i / 2 ^ n < 2 ^ (i - n) := Nat.div_lt_of_lt_mul (by rw [← pow_split h]; exact Nat.mod_lt _ (Nat.two_pow_pos i))
/-! ### how many bits -/
def IsLen (v n : Nat) : Prop := v < 2 ^ n ∧ (0 < n → 2 ^ (n - 1) ≤ v)
theorem IsLen.uniq {v n m : Nat} (h : IsLen v n) (k : IsLen v m) : n = m := by
  rcases Nat.lt_trichotomy n m with c | c | c
  · have := k.2 (by omega)
    have h2 := pow_mono (show n ≤ m - 1 by omega)
    exact absurd h.1 (Nat.not_lt.mpr (Nat.le_trans h2 this))
  · exact c
  · have := h.2 (by omega)
    have h2 := pow_mono (show m ≤ n - 1 by omega)
    exact absurd k.1 (Nat.not_lt.mpr (Nat.le_trans h2 this))
theorem isLen_aux : ∀ (f x : Nat), x < 2 ^ f → IsLen x (Lib.bitLenAux f x)
  | 0, x, h => ⟨h, fun h => absurd h (by simp [Lib.bitLenAux])⟩
  | f + 1, x, h => by
    unfold Lib.bitLenAux
    by_cases hx : x = 0
    · subst hx; rw [if_pos rfl]; exact ⟨by simp, fun h => absurd h (by omega)⟩
    · rw [if_neg hx]
      obtain ⟨h1, h2⟩ := isLen_aux f (x / 2) (by rw [Nat.pow_succ] at h; omega)
      refine ⟨?_, fun _ => ?_⟩
      · rw [Nat.add_comm, Nat.pow_succ]; omega
      · rw [Nat.add_sub_cancel_left]
        rcases Nat.eq_zero_or_pos (Lib.bitLenAux f (x / 2)) with c | c
        · rw [c]; simp; omega
        · have := h2 c
          have e : 2 ^ (Lib.bitLenAux f (x / 2)) = 2 * 2 ^ (Lib.bitLenAux f (x / 2) - 1) := by rw [← Nat.pow_succ']; congr 1; omega
          rw [e]; omega
theorem isLen_bitLen (x : Nat) (h : x < 18446744073709551616) : IsLen x (Lib.bitLen x) := isLen_aux 64 x (by rw [e64]; exact h)
theorem IsLen.le {x n m : Nat} (h : IsLen x n) (hx : x < 2 ^ m) : n ≤ m := by
  apply Nat.le_of_not_lt
  intro c
  have h1 := h.2 (by omega)
  have h2 := pow_mono (show m ≤ n - 1 by omega)
  exact absurd hx (Nat.not_lt.mpr (Nat.le_trans h2 h1))
theorem len64_ (x : Nat) (h : x < 18446744073709551616) : bits_Len64.f (x : Int) = some ((Lib.bitLen x : Nat) : Int) := by
  unfold bits_Len64.f; rw [if_pos (by omega)]; rfl
theorem wlen_ (v : Nat) (hv : v < 340282366920938463463374607431768211456) : ∃ n : Nat, IsLen v n ∧ n ≤ 128 ∧ wide_Len.f (hiw v) (low v) = some (n : Int) := by
  unfold wide_Len.f hiw low
  have hh : v / 18446744073709551616 < 18446744073709551616 := by omega
  by_cases h : v / 18446744073709551616 > 0
  · rw [if_pos (by omega), len64_ _ hh]
    have hl := isLen_bitLen _ hh
    have hle := hl.le (m := 64) (by rw [e64]; exact hh)
    refine ⟨64 + Lib.bitLen (v / 18446744073709551616), ⟨?_, fun _ => ?_⟩, by omega, ?_⟩
    · rw [Nat.pow_add, e64]
      have := hl.1
      generalize 2 ^ Lib.bitLen (v / 18446744073709551616) = p at *
      clear hl
      omega
    · have h0 : 0 < Lib.bitLen (v / 18446744073709551616) := by
        rcases Nat.eq_zero_or_pos (Lib.bitLen (v / 18446744073709551616)) with c | c
        · have := hl.1; rw [c] at this; simp at this; omega
        · exact c
      have := hl.2 h0
      rw [show 64 + Lib.bitLen (v / 18446744073709551616) - 1 = 64 + (Lib.bitLen (v / 18446744073709551616) - 1) by omega, Nat.pow_add, e64]
      generalize 2 ^ (Lib.bitLen (v / 18446744073709551616) - 1) = p at *
      clear hl
      omega
    · simp only [Option.bind_some]
      rw [wrap_i _ (by omega) (by omega)]
      congr 1
  · rw [if_neg (by omega), len64_ _ (Nat.mod_lt _ (by omega))]
    have e : v % 18446744073709551616 = v := Nat.mod_eq_of_lt (by omega)
    rw [e]
    have hl := isLen_bitLen v (by omega)
    exact ⟨_, hl, Nat.le_trans (hl.le (m := 64) (by rw [e64]; omega)) (by omega), rfl⟩
theorem IsLen.step {v i x n : Nat} (hx : v / 2 ^ i % 2 = x) (hx2 : x < 2) (h : IsLen (v % 2 ^ i) n) : IsLen (v % 2 ^ (i + 1)) (if x = 1 then i + 1 else n) := by
  rw [mod_succ, hx]
  have h1 := Nat.mod_lt v (Nat.two_pow_pos i)
  rcases (show x = 0 ∨ x = 1 by omega) with c | c
  · subst c; simpa using h
  · subst c
    simp only [if_true, Nat.one_mul]
    exact ⟨by rw [Nat.pow_succ]; omega, fun _ => by rw [Nat.add_sub_cancel]; omega⟩
end Go.Proofs.Ytmmgiolhfekplaa.Pure
