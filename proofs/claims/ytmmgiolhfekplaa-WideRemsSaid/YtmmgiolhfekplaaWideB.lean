import Derived.Laws.BitsAllLaws
import Derived.OpenShut
import Derived.Test.YtmmgiolhfekplaaPWidex2
import Derived.Test.YtmmgiolhfekplaaWNEv
import Derived.Test.YtmmgiolhfekplaaWideA
set_option linter.unusedVariables false
set_option linter.unusedSimpArgs false
namespace Go.Proofs.Ytmmgiolhfekplaa.Pure
open Go.RowKit Go.Proofs.Ytmmgiolhfekplaa Go.Proofs.Ytmmgiolhfekplaa.PWide Go.Proofs.Ytmmgiolhfekplaa.Ext Go.Proofs.YtmmgiolhfekplaaW.PrintWords Go.Proofs.YtmmgiolhfekplaaW.PrintLast Go.Proofs.YtmmgiolhfekplaaW.PrintMore

theorem wadd_ (a b : Nat) (ha : a < 340282366920938463463374607431768211456) (hb : b < 340282366920938463463374607431768211456) : wide_Add.f (hiw a) (low a) (hiw b) (low b) = some (hiw ((a + b) % 340282366920938463463374607431768211456), low ((a + b) % 340282366920938463463374607431768211456), (((a + b) / 340282366920938463463374607431768211456 : Nat) : Int)) := by
  unfold wide_Add.f hiw low
  rw [if_pos (by omega)]
  simp only [Option.some.injEq, Prod.mk.injEq]
  omega
theorem wsub_ (a b : Nat) (ha : a < 340282366920938463463374607431768211456) (hb : b < 340282366920938463463374607431768211456) : wide_Sub.f (hiw a) (low a) (hiw b) (low b) = some (hiw ((a + 340282366920938463463374607431768211456 - b) % 340282366920938463463374607431768211456), low ((a + 340282366920938463463374607431768211456 - b) % 340282366920938463463374607431768211456), if a < b then 1 else 0) := by
  unfold wide_Sub.f hiw low bor
  rw [if_pos (by omega)]
  simp only [Option.some.injEq, Prod.mk.injEq]
  by_cases h : a % 18446744073709551616 < b % 18446744073709551616
  · rw [if_pos (show ((a % 18446744073709551616 : Nat) : Int) < ((b % 18446744073709551616 : Nat) : Int) by omega)]
    refine ⟨by omega, by omega, ?_⟩
    by_cases h2 : a < b
    · rw [if_pos h2, if_pos (by omega)]
    · rw [if_neg h2, if_neg (by omega)]
  · rw [if_neg (show ¬ ((a % 18446744073709551616 : Nat) : Int) < ((b % 18446744073709551616 : Nat) : Int) by omega)]
    refine ⟨by omega, by omega, ?_⟩
    by_cases h2 : a < b
    · rw [if_pos h2, if_pos (by omega)]
    · rw [if_neg h2, if_neg (by omega)]

/-! ### shifts -/
theorem shl_add (v s i : Nat) (hs : s = v % 2 ^ i) (n : Nat) (x : Nat) (hx : v / 2 ^ i % 2 = x) : v % 2 ^ (i + 1) * 2 ^ n = s * 2 ^ n + x * 2 ^ (i + n) := by
  rw [mod_succ, hx, hs, Nat.add_mul, Nat.mul_assoc, ← Nat.pow_add]
theorem shl_room (v i n : Nat) (h : i + n < 128) : v % 2 ^ i * 2 ^ n < 2 ^ (i + n) := by
  rw [Nat.pow_add]; exact Nat.mul_lt_mul_of_pos_right (Nat.mod_lt _ (Nat.two_pow_pos i)) (Nat.two_pow_pos n)
theorem rshl_go (v i n x s : Nat) (hx : x < 2) (hin : i + n < 128) (hv : abacistref01_bit.f (hiw v) (low v) (i : Int) = some (x : Int))
    (hs : abacistref01_set.f (hiw s) (low s) ((i + n : Nat) : Int) = some (hiw (s + 2 ^ (i + n)), low (s + 2 ^ (i + n)))) (k : Nat) :
    abacistref01_Shl.l0 (k + 1 + 1) (n : Int) (i : Int) (hiw v) (low v) (hiw s) (low s) = abacistref01_Shl.l0 k (n : Int) ((i + 1 : Nat) : Int) (hiw v) (low v) (hiw (s + x * 2 ^ (i + n))) (low (s + x * 2 ^ (i + n))) := by
  have e1 : wrap64 (128 - (i : Int)) = 128 - (i : Int) := by unfold wrap64; omega
  have e2 : wrap64 ((i : Int) + (n : Int)) = ((i + n : Nat) : Int) := by unfold wrap64; omega
  have e4 : wrap64 ((i : Int) + 1) = ((i + 1 : Nat) : Int) := by unfold wrap64; omega
  simp only [abacistref01_Shl.l0]
  rw [if_pos (by omega), e1, decide_eq_true (by omega)]
  simp only [abacistref01_Shl.j2, if_true]
  rw [hv, e2, e4]
  simp only [Option.bind_some]
  rcases (show x = 0 ∨ x = 1 by omega) with h | h
  · subst h; rw [if_neg (by omega)]; simp only [Nat.zero_mul, Nat.add_zero]
  · subst h; rw [if_pos (by omega), hs]; simp only [Option.bind_some, Nat.one_mul]
theorem rshl_end (v i n s : Nat) (hin : 128 ≤ i + n) (hi : i ≤ 128) (hn : n < 9223372036854775808) (k : Nat) :
    abacistref01_Shl.l0 (k + 1 + 1) (n : Int) (i : Int) (hiw v) (low v) (hiw s) (low s) = some (hiw s, low s) := by
  simp only [abacistref01_Shl.l0]
  by_cases h : (i : Int) < 128
  · have e1 : wrap64 (128 - (i : Int)) = 128 - (i : Int) := by unfold wrap64; omega
    rw [if_pos h, e1, decide_eq_false (by omega)]
    simp only [abacistref01_Shl.j2]
    rw [if_neg (by decide)]
  · rw [if_neg h]
    simp only [abacistref01_Shl.j2]
    rw [if_neg (by decide)]
theorem rshl_loop (v n : Nat) (hn : n < 9223372036854775808) (d : Nat) : ∀ (i : Nat), (i + n + d = 128 ∨ (i = 0 ∧ 128 ≤ n ∧ d = 0)) →
    Ev (fun k => abacistref01_Shl.l0 k (n : Int) (i : Int) (hiw v) (low v) (hiw (v % 2 ^ i * 2 ^ n)) (low (v % 2 ^ i * 2 ^ n))) (hiw (v % 2 ^ (i + d) * 2 ^ n), low (v % 2 ^ (i + d) * 2 ^ n)) := by
  induction d with
  | zero =>
    intro i hi
    refine Ev.step (f := fun k => abacistref01_Shl.l0 (k + 1) (n : Int) (i : Int) (hiw v) (low v) (hiw (v % 2 ^ i * 2 ^ n)) (low (v % 2 ^ i * 2 ^ n))) (fun k => rfl) ?_
    exact Ev.step (fun k => rshl_end v i n _ (by omega) (by omega) hn k) (Ev.now _)
  | succ d ih =>
    intro i hi
    have hin : i + n < 128 := by omega
    have hlt := shl_room v i n hin
    have h2 : v % 2 ^ i * 2 ^ n < 340282366920938463463374607431768211456 := by rw [← e128]; exact Nat.lt_of_lt_of_le hlt (pow_mono (Nat.le_of_lt hin))
    have hs := set_ (v % 2 ^ i * 2 ^ n) (i + n) h2 hin (bit_zero hlt)
    have hadd := shl_add v (v % 2 ^ i) i rfl n _ rfl
    have hgo := rshl_go v i n _ (v % 2 ^ i * 2 ^ n) (bit_lt v i) hin (bit_ v i (by clear hlt h2 hs hadd; omega)) hs
    rw [← hadd] at hgo
    have := ih (i + 1) (.inl (by clear hlt h2 hs hadd hgo; omega))
    rw [show i + 1 + d = i + (d + 1) by clear hlt h2 hs hadd hgo this; omega] at this
    refine Ev.step (f := fun k => abacistref01_Shl.l0 (k + 1) (n : Int) (i : Int) (hiw v) (low v) (hiw (v % 2 ^ i * 2 ^ n)) (low (v % 2 ^ i * 2 ^ n))) (fun k => rfl) ?_
    exact Ev.step hgo this
end Go.Proofs.Ytmmgiolhfekplaa.Pure
