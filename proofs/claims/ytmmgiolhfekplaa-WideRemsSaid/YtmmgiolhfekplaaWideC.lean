import Derived.Laws.BitsAllLaws
import Derived.OpenShut
import Derived.Test.YtmmgiolhfekplaaPWidex2
import Derived.Test.YtmmgiolhfekplaaPWidex5
import Derived.Test.YtmmgiolhfekplaaPWidex6
import Derived.Test.YtmmgiolhfekplaaWNEv
import Derived.Test.YtmmgiolhfekplaaWideB
set_option linter.unusedVariables false
set_option linter.unusedSimpArgs false
namespace Go.Proofs.Ytmmgiolhfekplaa.Pure
open Go.RowKit Go.Proofs.Ytmmgiolhfekplaa Go.Proofs.Ytmmgiolhfekplaa.PWide Go.Proofs.Ytmmgiolhfekplaa.Ext Go.Proofs.YtmmgiolhfekplaaW.PrintWords Go.Proofs.YtmmgiolhfekplaaW.PrintLast Go.Proofs.YtmmgiolhfekplaaW.PrintMore

theorem rshl_nat (v n : Nat) (hv : v < 340282366920938463463374607431768211456) (hn : n < 9223372036854775808) : Ev (fun k => abacistref01_Shl.l0 k (n : Int) 0 (hiw v) (low v) 0 0) (hiw (v * 2 ^ n % 340282366920938463463374607431768211456), low (v * 2 ^ n % 340282366920938463463374607431768211456)) := by
  rcases Nat.lt_or_ge n 128 with h | h
  · have h1 := rshl_loop v n hn (128 - n) 0 (.inl (by omega))
    have e : v % 2 ^ (0 + (128 - n)) * 2 ^ n = v * 2 ^ n % 340282366920938463463374607431768211456 := by
      rw [Nat.zero_add, ← e128, pow_split (show n ≤ 128 by omega), Nat.mul_comm (2 ^ n), Nat.mul_mod_mul_right]
    rw [e] at h1
    have e0 : v % 2 ^ 0 * 2 ^ n = 0 := by rw [Nat.pow_zero, Nat.mod_one, Nat.zero_mul]
    rw [e0] at h1
    exact h1
  · have h1 := rshl_loop v n hn 0 0 (.inr ⟨rfl, h, rfl⟩)
    have e0 : v % 2 ^ 0 * 2 ^ n = 0 := by rw [Nat.pow_zero, Nat.mod_one, Nat.zero_mul]
    have e1 : v * 2 ^ n % 340282366920938463463374607431768211456 = 0 := by
      have := pow_split (i := 128) (n := n) h
      rw [this, e128, Nat.mul_left_comm, Nat.mul_mod_right]
    rw [show (0 : Nat) + 0 = 0 from rfl, e0] at h1
    rw [e1]
    exact h1
theorem rshl_ (v : Nat) (n : Int) (hv : v < 340282366920938463463374607431768211456) (hn : n ≤ 9223372036854775807) : Ev (fun k => abacistref01_Shl.f k (hiw v) (low v) n) (hiw (v * 2 ^ n.toNat % 340282366920938463463374607431768211456), low (v * 2 ^ n.toNat % 340282366920938463463374607431768211456)) := by
  by_cases h : n < 0
  · have e : n.toNat = 0 := by omega
    have h1 := rshl_nat v 0 hv (by omega)
    rw [e]
    refine Ev.congr (f := fun k => abacistref01_Shl.j0 k 0 (hiw v) (low v) 0 0) (fun k => ?_) (Ev.step (f := fun k => abacistref01_Shl.l0 k 0 0 (hiw v) (low v) 0 0) (fun k => rfl) h1)
    unfold abacistref01_Shl.f; rw [if_pos h]
  · obtain ⟨m, rfl⟩ := Int.eq_ofNat_of_zero_le (show 0 ≤ n by omega)
    have h1 := rshl_nat v m hv (by omega)
    refine Ev.congr (f := fun k => abacistref01_Shl.j0 k (m : Int) (hiw v) (low v) 0 0) (fun k => ?_) (Ev.step (f := fun k => abacistref01_Shl.l0 k (m : Int) 0 (hiw v) (low v) 0 0) (fun k => rfl) h1)
    unfold abacistref01_Shl.f; rw [if_neg (by omega)]
theorem or_join (n x y : Nat) (hx : x < 18446744073709551616) (hy : y < 2 ^ n) (hy2 : y < 18446744073709551616) (h : x % 2 ^ n = 0) : Go.bits .or .u64 (x : Int) (y : Int) = ((x + y : Nat) : Int) := by
  rw [u64_or_nat x y hx hy2, nat_join n x y h hy]
theorem mul_mod_low (x n : Nat) (hn : n ≤ 64) : x * 2 ^ n % 18446744073709551616 % 2 ^ n = 0 := by
  rw [← e64, pow_split hn, Nat.mod_mul_right_mod, Nat.mul_mod_left]
theorem shl_u_big (x n : Nat) (h : 64 ≤ n) : shl .u64 (x : Int) (n : Int) = 0 := by
  have e : shl .u64 (x : Int) (n : Int) = shl .u64 (x : Int) ((64 : Nat) : Int) := by
    unfold shl
    have e1 : min (n : Int).toNat IntKind.u64.bits = 64 := by simp [IntKind.bits]; omega
    have e2 : min ((64 : Nat) : Int).toNat IntKind.u64.bits = 64 := by simp [IntKind.bits]
    rw [e1, e2]
  rw [e, shl_u x 64 (by omega), e64, Nat.mul_mod_left]
  rfl
theorem shr_u_big (x n : Nat) (hx : x < 18446744073709551616) (h : 64 ≤ n) : shr .u64 (x : Int) (n : Int) = 0 := by
  have e : shr .u64 (x : Int) (n : Int) = shr .u64 (x : Int) ((64 : Nat) : Int) := by
    unfold shr
    have e1 : min (n : Int).toNat IntKind.u64.bits = 64 := by simp [IntKind.bits]; omega
    have e2 : min ((64 : Nat) : Int).toNat IntKind.u64.bits = 64 := by simp [IntKind.bits]
    rw [e1, e2]
  rw [e, shr_u x 64 (by omega), e64, Nat.div_eq_of_lt hx]
  rfl
theorem wide_mod (X c : Nat) (hc : c < 18446744073709551616) : (X * 18446744073709551616 + c) % 340282366920938463463374607431768211456 / 18446744073709551616 = X % 18446744073709551616 ∧ (X * 18446744073709551616 + c) % 340282366920938463463374607431768211456 % 18446744073709551616 = c := by omega
theorem shl_parts (h l p q : Nat) (hl : l < 18446744073709551616) (hp : p * q = 18446744073709551616) (hq : 0 < q) :
    (h * 18446744073709551616 + l) * p % 340282366920938463463374607431768211456 / 18446744073709551616 = h * p % 18446744073709551616 + l / q ∧ (h * 18446744073709551616 + l) * p % 340282366920938463463374607431768211456 % 18446744073709551616 = l * p % 18446744073709551616 ∧ h * p % 18446744073709551616 + l / q < 18446744073709551616 ∧ l / q < p := by
  have hp0 : 0 < p := Nat.pos_of_ne_zero (by rintro rfl; simp at hp)
  have e0 : l * p / 18446744073709551616 = l / q := by rw [← hp, Nat.mul_comm l p, Nat.mul_div_mul_left _ _ hp0]
  have e1 : l * p = l / q * 18446744073709551616 + l * p % 18446744073709551616 := by rw [← e0]; have := Nat.div_add_mod (l * p) 18446744073709551616; omega
  have e2 : (h * 18446744073709551616 + l) * p = (h * p + l / q) * 18446744073709551616 + l * p % 18446744073709551616 := by
    rw [Nat.add_mul, Nat.add_mul, Nat.mul_right_comm]; omega
  have d1 : l / q < p := Nat.div_lt_of_lt_mul (by rw [Nat.mul_comm, hp]; exact hl)
  have d2 : h * p % 18446744073709551616 = h % q * p := by rw [← hp, Nat.mul_comm p q, Nat.mul_mod_mul_right]
  have d3 : (h % q + 1) * p ≤ q * p := Nat.mul_le_mul_right _ (Nat.mod_lt _ hq)
  have d4 : q * p = 18446744073709551616 := by rw [Nat.mul_comm]; exact hp
  have e3 : h * p % 18446744073709551616 + l / q < 18446744073709551616 := by
    rw [Nat.add_mul, Nat.one_mul, ← d2, d4] at d3
    clear e0 e1 e2 d2 d4
    omega
  have hlp : l * p % 18446744073709551616 < 18446744073709551616 := Nat.mod_lt _ (by omega)
  obtain ⟨f1, f2⟩ := wide_mod (h * p + l / q) (l * p % 18446744073709551616) hlp
  refine ⟨?_, by rw [e2, f2], e3, d1⟩
  rw [e2, f1]
  clear e0 e1 e2 d2 d3 d4 f1 f2 hlp
  generalize h * p = x at *
  generalize l / q = d at *
  omega
theorem wshl_ (v : Nat) (n : Int) (hv : v < 340282366920938463463374607431768211456) (hn : n ≤ 9223372036854775807) (hn2 : -9223372036854775808 ≤ n) : wide_Shl.f (hiw v) (low v) n = some (hiw (v * 2 ^ n.toNat % 340282366920938463463374607431768211456), low (v * 2 ^ n.toNat % 340282366920938463463374607431768211456)) := by
  unfold wide_Shl.f
  by_cases h0 : n ≤ 0
  · have e : n.toNat = 0 := by omega
    rw [if_pos h0, e, Nat.pow_zero, Nat.mul_one, Nat.mod_eq_of_lt hv]
  · obtain ⟨m, rfl⟩ := Int.eq_ofNat_of_zero_le (show 0 ≤ n by omega)
    rw [if_neg h0, Int.toNat_natCast]
    by_cases h1 : m < 64
    · have ew : wrap64 (64 - (m : Int)) = ((64 - m : Nat) : Int) := by unfold wrap64; omega
      rw [if_neg (by omega), wrap_u (m : Int) (by omega) (by omega), if_pos (by omega), ew, wrap_u _ (by omega) (by omega), if_pos (by omega)]
      unfold hiw low
      rw [shl_u _ _ (by omega), shr_u _ _ (by omega), shl_u _ _ (by omega)]
      have hd := Nat.div_add_mod v 18446744073709551616
      have hl : v % 18446744073709551616 < 18446744073709551616 := Nat.mod_lt _ (by omega)
      have hpq : 2 ^ m * 2 ^ (64 - m) = 18446744073709551616 := by rw [← e64, ← pow_split (by omega)]
      obtain ⟨f1, f2, f3, f4⟩ := shl_parts (v / 18446744073709551616) (v % 18446744073709551616) (2 ^ m) (2 ^ (64 - m)) hl hpq (Nat.two_pow_pos _)
      have e2 : v / 18446744073709551616 * 18446744073709551616 + v % 18446744073709551616 = v := by clear f1 f2 f3 f4 hpq; omega
      rw [e2] at f1 f2
      rw [or_join m _ _ (Nat.mod_lt _ (by omega)) f4 (Nat.lt_of_le_of_lt (Nat.le_add_left _ _) f3) (mul_mod_low _ m (by omega)), f1, f2]
    · have ew : wrap64 ((m : Int) - 64) = ((m - 64 : Nat) : Int) := by unfold wrap64; omega
      rw [if_pos (by omega), ew, wrap_u _ (by omega) (by omega), if_pos (by omega)]
      have e2 : 2 ^ m = 18446744073709551616 * 2 ^ (m - 64) := by rw [← e64, ← pow_split (by omega)]
      have e3 : v * 2 ^ m % 340282366920938463463374607431768211456 = v % 18446744073709551616 * 2 ^ (m - 64) % 18446744073709551616 * 18446744073709551616 := by
        rw [e2, Nat.mul_left_comm, show (340282366920938463463374607431768211456 : Nat) = 18446744073709551616 * 18446744073709551616 from rfl, Nat.mul_mod_mul_left, Nat.mul_comm 18446744073709551616, Nat.mul_mod (v % 18446744073709551616), Nat.mod_mod, ← Nat.mul_mod]
      rw [e3]
      unfold hiw low
      rw [Nat.mul_div_cancel _ (by omega), Nat.mul_mod_left]
      simp only [Option.some.injEq, Prod.mk.injEq]
      refine ⟨?_, rfl⟩
      by_cases h2 : m - 64 ≤ 64
      · rw [shl_u _ _ h2]
      · rw [shl_u_big _ _ (by omega)]
        have : 18446744073709551616 ∣ 2 ^ (m - 64) := by rw [← e64]; exact ⟨2 ^ (m - 64 - 64), pow_split (by omega)⟩
        have e5 : v % 18446744073709551616 * 2 ^ (m - 64) % 18446744073709551616 = 0 := Nat.mod_eq_zero_of_dvd (Nat.dvd_mul_left_of_dvd this _)
        rw [e5]; rfl
theorem shr_parts (h l p q : Nat) (hl : l < 18446744073709551616) (hh : h < 18446744073709551616) (hp : p * q = 18446744073709551616) (hq : 0 < q) :
    (h * 18446744073709551616 + l) / p / 18446744073709551616 = h / p ∧ (h * 18446744073709551616 + l) / p % 18446744073709551616 = l / p + h * q % 18446744073709551616 ∧ l / p < q ∧ l / p + h * q % 18446744073709551616 < 18446744073709551616 := by
  have hp0 : 0 < p := Nat.pos_of_ne_zero (by rintro rfl; simp at hp)
  have e1 : (h * 18446744073709551616 + l) / p = h * q + l / p := by
    rw [← hp, ← Nat.mul_assoc, Nat.mul_right_comm, Nat.add_comm, Nat.add_mul_div_right _ _ hp0, Nat.add_comm]
  have d1 : l / p < q := Nat.div_lt_of_lt_mul (by rw [hp]; exact hl)
  have d2 : h * q % 18446744073709551616 = h % p * q := by rw [← hp, Nat.mul_mod_mul_right]
  have d3 : (h % p + 1) * q ≤ p * q := Nat.mul_le_mul_right _ (Nat.mod_lt _ hp0)
  rw [Nat.add_mul, Nat.one_mul, ← d2, hp] at d3
  have e2 : h * q / 18446744073709551616 = h / p := by rw [← hp, Nat.mul_div_mul_right _ _ hq]
  rw [e1]
  refine ⟨?_, ?_, d1, by clear e1 e2 d2; omega⟩
  · rw [← e2]
    clear e1 e2 d2
    generalize h * q = x at *
    generalize l / p = d at *
    omega
  · clear e1 e2 d2
    generalize h * q = x at *
    generalize l / p = d at *
    omega
theorem wshr_ (v : Nat) (n : Int) (hv : v < 340282366920938463463374607431768211456) (hn : n ≤ 9223372036854775807) (hn2 : -9223372036854775808 ≤ n) : wide_Shr.f (hiw v) (low v) n = some (hiw (v / 2 ^ n.toNat), low (v / 2 ^ n.toNat)) := by
  unfold wide_Shr.f
  by_cases h0 : n ≤ 0
  · have e : n.toNat = 0 := by omega
    rw [if_pos h0, e, Nat.pow_zero, Nat.div_one]
  · obtain ⟨m, rfl⟩ := Int.eq_ofNat_of_zero_le (show 0 ≤ n by omega)
    rw [if_neg h0, Int.toNat_natCast]
    have hh : v / 18446744073709551616 < 18446744073709551616 := by omega
    by_cases h1 : m < 64
    · have ew : wrap64 (64 - (m : Int)) = ((64 - m : Nat) : Int) := by unfold wrap64; omega
      rw [if_neg (by omega), wrap_u (m : Int) (by omega) (by omega), if_pos (by omega), ew, wrap_u _ (by omega) (by omega), if_pos (by omega)]
      unfold hiw low
      rw [shl_u _ _ (by omega), shr_u _ _ (by omega), shr_u _ _ (by omega)]
      have hd := Nat.div_add_mod v 18446744073709551616
      have hl : v % 18446744073709551616 < 18446744073709551616 := Nat.mod_lt _ (by omega)
      have hpq : 2 ^ m * 2 ^ (64 - m) = 18446744073709551616 := by rw [← e64, ← pow_split (by omega)]
      obtain ⟨f1, f2, f3, f4⟩ := shr_parts (v / 18446744073709551616) (v % 18446744073709551616) (2 ^ m) (2 ^ (64 - m)) hl hh hpq (Nat.two_pow_pos _)
      have e2 : v / 18446744073709551616 * 18446744073709551616 + v % 18446744073709551616 = v := by clear f1 f2 f3 f4 hpq; omega
      rw [e2] at f1 f2
      have hor : Go.bits .or .u64 ((v % 18446744073709551616 / 2 ^ m : Nat) : Int) ((v / 18446744073709551616 * 2 ^ (64 - m) % 18446744073709551616 : Nat) : Int) = ((v / 18446744073709551616 * 2 ^ (64 - m) % 18446744073709551616 + v % 18446744073709551616 / 2 ^ m : Nat) : Int) := by
        rw [u64_or_nat _ _ (Nat.lt_of_le_of_lt (Nat.le_add_right _ _) f4) (Nat.mod_lt _ (by omega)), Nat.or_comm, nat_join (64 - m) _ _ (mul_mod_low _ _ (by omega)) f3]
      rw [hor, f1, f2, Nat.add_comm]
    · have ew : wrap64 ((m : Int) - 64) = ((m - 64 : Nat) : Int) := by unfold wrap64; omega
      rw [if_pos (by omega), ew, wrap_u _ (by omega) (by omega), if_pos (by omega)]
      have e2 : 2 ^ m = 18446744073709551616 * 2 ^ (m - 64) := by rw [← e64, ← pow_split (by omega)]
      have e3 : v / 2 ^ m = v / 18446744073709551616 / 2 ^ (m - 64) := by rw [e2, Nat.div_div_eq_div_mul]
      have e4 : v / 18446744073709551616 / 2 ^ (m - 64) < 18446744073709551616 := Nat.lt_of_le_of_lt (Nat.div_le_self _ _) hh
      rw [e3]
      obtain ⟨g1, g2⟩ := hiw_small _ e4
      rw [g1, g2]
      simp only [Option.some.injEq, Prod.mk.injEq]
      refine ⟨trivial, ?_⟩
      unfold hiw
      by_cases h2 : m - 64 ≤ 64
      · rw [shr_u _ _ h2]
      · rw [shr_u_big _ _ hh (by omega)]
        have h3 : v / 18446744073709551616 < 2 ^ (m - 64) := Nat.lt_of_lt_of_le hh (by rw [← e64]; exact pow_mono (by omega))
        rw [Nat.div_eq_of_lt h3]; rfl
end Go.Proofs.Ytmmgiolhfekplaa.Pure
