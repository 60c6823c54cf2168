import Derived.Laws.BitsAllLaws
import Derived.OpenShut
import Derived.Test.YtmmgiolhfekplaaPWidex2
import Derived.Test.YtmmgiolhfekplaaPWidex3
import Derived.Test.YtmmgiolhfekplaaPWidex4
import Derived.Test.YtmmgiolhfekplaaWNEv
import Derived.Test.YtmmgiolhfekplaaNums
set_option linter.unusedVariables false
set_option linter.unusedSimpArgs false
namespace Go.Proofs.Ytmmgiolhfekplaa.Pure
open Go.RowKit Go.Proofs.Ytmmgiolhfekplaa Go.Proofs.Ytmmgiolhfekplaa.PWide Go.Proofs.Ytmmgiolhfekplaa.Ext Go.Proofs.YtmmgiolhfekplaaW.PrintWords Go.Proofs.YtmmgiolhfekplaaW.PrintLast Go.Proofs.YtmmgiolhfekplaaW.PrintMore

/-- A wide number's two words. -/
def hiw (v : Nat) : Int := ((v / 18446744073709551616 : Nat) : Int)
def low (v : Nat) : Int := ((v % 18446744073709551616 : Nat) : Int)
theorem wide_of (a b : Int) (ha : 0 ≤ a) (hb : 0 ≤ b) (ha2 : a ≤ 18446744073709551615) (hb2 : b ≤ 18446744073709551615) :
    ∃ v : Nat, v < 340282366920938463463374607431768211456 ∧ a = hiw v ∧ b = low v := by
  refine ⟨a.toNat * 18446744073709551616 + b.toNat, ?_, ?_, ?_⟩
  · omega
  · unfold hiw; omega
  · unfold low; omega
theorem hiw_range (v : Nat) (h : v < 340282366920938463463374607431768211456) : 0 ≤ hiw v ∧ hiw v < 18446744073709551616 := by unfold hiw; omega
theorem low_range (v : Nat) : 0 ≤ low v ∧ low v < 18446744073709551616 := by unfold low; omega
theorem hl_inj {u v : Nat} (h1 : hiw u = hiw v) (h2 : low u = low v) : u = v := by unfold hiw at h1; unfold low at h2; omega
theorem hiw_small (v : Nat) (h : v < 18446744073709551616) : hiw v = 0 ∧ low v = v := by unfold hiw low; omega

/-! ### the document's numbers, bit by bit -/
theorem bit_ (v i : Nat) (hi : i < 128) : abacistref01_bit.f (hiw v) (low v) (i : Int) = some ((v / 2 ^ i % 2 : Nat) : Int) := by
  unfold abacistref01_bit.f hiw low
  by_cases h : i < 64
  · rw [if_neg (by omega), wrap_u _ (by omega) (by omega), if_pos (by omega), shr_u _ _ (by omega)]
    have e : Int.tmod ((v % 18446744073709551616 / 2 ^ i : Nat) : Int) 2 = ((v % 18446744073709551616 / 2 ^ i % 2 : Nat) : Int) := rfl
    rw [e, ← e64, mod_bit h]
  · have e1 : wrap64 ((i : Int) - 64) = ((i - 64 : Nat) : Int) := by unfold wrap64; omega
    rw [if_pos (by omega), e1, wrap_u _ (by omega) (by omega), if_pos (by omega), shr_u _ _ (by omega)]
    have e : Int.tmod ((v / 18446744073709551616 / 2 ^ (i - 64) : Nat) : Int) 2 = ((v / 18446744073709551616 / 2 ^ (i - 64) % 2 : Nat) : Int) := rfl
    rw [e, Nat.div_div_eq_div_mul, ← e64, ← pow_split (by omega)]
theorem set_ (v i : Nat) (hv : v < 340282366920938463463374607431768211456) (hi : i < 128) (hb : v / 2 ^ i % 2 = 0) : abacistref01_set.f (hiw v) (low v) (i : Int) = some (hiw (v + 2 ^ i), low (v + 2 ^ i)) := by
  have hr := room (by rw [e128]; exact hv) hi hb
  rw [e128] at hr
  unfold abacistref01_set.f hiw low
  by_cases h : i < 64
  · have hr2 := room (v := v % 2 ^ 64) (i := i) (n := 64) (Nat.mod_lt _ (by decide)) h (by rw [mod_bit h]; exact hb)
    have hp := pow_lt64 h
    have hs := shl_u 1 i (by omega)
    rw [Nat.one_mul] at hs
    have hs' : shl .u64 1 (i : Int) = ((2 ^ i : Nat) : Int) := by
      have e : shl .u64 1 (i : Int) = shl .u64 ((1 : Nat) : Int) (i : Int) := rfl
      rw [e, hs, Nat.mod_eq_of_lt (Nat.lt_of_le_of_lt hp (by omega))]
    rw [if_neg (by omega), wrap_u _ (by omega) (by omega), if_pos (by omega), hs']
    rw [e64] at hr2
    generalize 2 ^ i = p at *
    rw [wrap_u _ (by omega) (by omega)]
    simp only [Option.some.injEq, Prod.mk.injEq]
    omega
  · have e1 : wrap64 ((i : Int) - 64) = ((i - 64 : Nat) : Int) := by unfold wrap64; omega
    have hp := pow_lt64 (i := i - 64) (by omega)
    have hs := shl_u 1 (i - 64) (by omega)
    rw [Nat.one_mul] at hs
    have hs' : shl .u64 1 ((i - 64 : Nat) : Int) = ((2 ^ (i - 64) : Nat) : Int) := by
      have e : shl .u64 1 ((i - 64 : Nat) : Int) = shl .u64 ((1 : Nat) : Int) ((i - 64 : Nat) : Int) := rfl
      rw [e, hs, Nat.mod_eq_of_lt (Nat.lt_of_le_of_lt hp (by omega))]
    rw [if_pos (by omega), e1, wrap_u _ (by omega) (by omega), if_pos (by omega), hs']
    have e2 : 2 ^ i = 18446744073709551616 * 2 ^ (i - 64) := by rw [← e64, ← pow_split (by omega)]
    rw [e2] at hr
    rw [e2]
    generalize 2 ^ (i - 64) = p at *
    rw [wrap_u _ (by omega) (by omega)]
    simp only [Option.some.injEq, Prod.mk.injEq]
    omega
/-- The step from bit to bit of a sum. -/
theorem sum_step (a b i c s : Nat) (hs : s = (a % 2 ^ i + b % 2 ^ i) % 2 ^ i) (hc : c = (a % 2 ^ i + b % 2 ^ i) / 2 ^ i) (n : Nat) (hn : n = a / 2 ^ i % 2 + b / 2 ^ i % 2 + c) :
    s < 2 ^ i ∧ n ≤ 3 ∧ (a % 2 ^ (i + 1) + b % 2 ^ (i + 1)) % 2 ^ (i + 1) = s + n % 2 * 2 ^ i ∧ (a % 2 ^ (i + 1) + b % 2 ^ (i + 1)) / 2 ^ (i + 1) = n / 2 := by
  have hp : 0 < 2 ^ i := Nat.two_pow_pos i
  have h1 := Nat.mod_lt a hp
  have h2 := Nat.mod_lt b hp
  have hc1 : c ≤ 1 := by rw [hc]; exact Nat.le_of_lt_succ (Nat.div_lt_of_lt_mul (by omega))
  have ha := bit_lt a i
  have hb := bit_lt b i
  have hs2 : s < 2 ^ i := by rw [hs]; exact Nat.mod_lt _ hp
  have hT : a % 2 ^ i + b % 2 ^ i = 2 ^ i * c + s := by rw [hs, hc]; exact (Nat.div_add_mod _ _).symm
  have hT2 : a % 2 ^ (i + 1) + b % 2 ^ (i + 1) = s + n * 2 ^ i := by
    rw [mod_succ, mod_succ, hn, Nat.add_mul, Nat.add_mul, Nat.mul_comm c]
    omega
  refine ⟨hs2, by omega, ?_, ?_⟩
  · rw [hT2, Nat.pow_succ]
    have e : s + n * 2 ^ i = (s + n % 2 * 2 ^ i) + n / 2 * (2 ^ i * 2) := by
      have := Nat.div_add_mod n 2
      have e2 : n * 2 ^ i = (2 * (n / 2) + n % 2) * 2 ^ i := by rw [this]
      rw [e2, Nat.add_mul, Nat.mul_comm 2, Nat.mul_assoc, Nat.mul_comm 2 (2 ^ i)]
      omega
    rw [e, Nat.add_mul_mod_self_right]
    apply Nat.mod_eq_of_lt
    have : n % 2 * 2 ^ i ≤ 1 * 2 ^ i := Nat.mul_le_mul_right _ (by omega)
    omega
  · rw [hT2, Nat.pow_succ, ← Nat.div_div_eq_div_mul, Nat.add_mul_div_right _ _ hp, Nat.div_eq_of_lt hs2, Nat.zero_add]
theorem bit_zero {s i : Nat} (h : s < 2 ^ i) : s / 2 ^ i % 2 = 0 := by rw [Nat.div_eq_of_lt h]
theorem radd_go (a b i s c n x y : Nat) (hx : x < 2) (hy : y < 2) (hc : c ≤ 1) (hn : n = x + y + c) (hi : i < 128)
    (ha : abacistref01_bit.f (hiw a) (low a) (i : Int) = some (x : Int)) (hb : abacistref01_bit.f (hiw b) (low b) (i : Int) = some (y : Int))
    (hs : abacistref01_set.f (hiw s) (low s) (i : Int) = some (hiw (s + 2 ^ i), low (s + 2 ^ i))) (k : Nat) :
    abacistref01_Add.l0 (k + 1) (c : Int) (i : Int) (hiw a) (low a) (hiw b) (low b) (hiw s) (low s) = abacistref01_Add.l0 k ((n / 2 : Nat) : Int) ((i + 1 : Nat) : Int) (hiw a) (low a) (hiw b) (low b) (hiw (s + n % 2 * 2 ^ i)) (low (s + n % 2 * 2 ^ i)) := by
  have e1 : IntKind.u64.wrap (IntKind.u64.wrap ((x : Int) + (y : Int)) + (c : Int)) = (n : Int) := by
    rw [wrap_u ((x : Int) + (y : Int)) (by omega) (by omega), wrap_u _ (by omega) (by omega)]
    omega
  have e3 : Int.tmod (n : Int) 2 = ((n % 2 : Nat) : Int) := rfl
  have e2 : IntKind.u64.wrap (Int.tdiv (n : Int) 2) = ((n / 2 : Nat) : Int) := by
    have : Int.tdiv (n : Int) 2 = ((n / 2 : Nat) : Int) := rfl
    rw [this, wrap_u _ (by omega) (by omega)]
  have e4 : wrap64 ((i : Int) + 1) = ((i + 1 : Nat) : Int) := by unfold wrap64; omega
  simp only [abacistref01_Add.l0]
  rw [if_pos (by omega), ha, hb]
  simp only [Option.bind_some]
  rw [e1, e2, e3, e4]
  rcases (show n % 2 = 0 ∨ n % 2 = 1 by omega) with h | h
  · rw [if_neg (by omega), h]; simp only [Nat.zero_mul, Nat.add_zero]
  · rw [if_pos (by omega), hs, h]
    simp only [Option.bind_some, Nat.one_mul]
theorem radd_loop (a b : Nat) (d : Nat) : ∀ (i s c : Nat), i + d = 128 → s = (a % 2 ^ i + b % 2 ^ i) % 2 ^ i → c = (a % 2 ^ i + b % 2 ^ i) / 2 ^ i →
    Ev (fun k => abacistref01_Add.l0 k (c : Int) (i : Int) (hiw a) (low a) (hiw b) (low b) (hiw s) (low s)) (hiw ((a % 340282366920938463463374607431768211456 + b % 340282366920938463463374607431768211456) % 340282366920938463463374607431768211456), low ((a % 340282366920938463463374607431768211456 + b % 340282366920938463463374607431768211456) % 340282366920938463463374607431768211456), (((a % 340282366920938463463374607431768211456 + b % 340282366920938463463374607431768211456) / 340282366920938463463374607431768211456 : Nat) : Int)) := by
  induction d with
  | zero =>
    intro i s c hi hs hc
    obtain rfl : i = 128 := hi
    rw [e128] at hs hc
    refine Ev.step (f := fun _ => some (hiw s, low s, (c : Int))) (fun k => ?_) ?_
    · clear hs hc
      simp only [abacistref01_Add.l0]
      rw [if_neg (by omega)]
    · rw [← hs, ← hc]; exact Ev.now _
  | succ d ih =>
    intro i s c hi hs hc
    have hi128 : i < 128 := by clear hs hc; omega
    obtain ⟨h1, h2, h3, h4⟩ := sum_step a b i c s hs hc _ rfl
    have hc1 : c ≤ 1 := by
      rw [hc]; exact Nat.le_of_lt_succ (Nat.div_lt_of_lt_mul (by
        have p1 := Nat.mod_lt a (Nat.two_pow_pos i)
        have p2 := Nat.mod_lt b (Nat.two_pow_pos i)
        clear hs hc h1 h2 h3 h4
        omega))
    have hs128 : s < 340282366920938463463374607431768211456 := by rw [← e128]; exact Nat.lt_of_lt_of_le h1 (pow_mono (Nat.le_of_lt hi128))
    have hi1 : i + 1 + d = 128 := by clear hs hc h1 h2 h3 h4; omega
    exact Ev.step (fun k => radd_go a b i s c _ _ _ (bit_lt a i) (bit_lt b i) hc1 rfl hi128 (bit_ a i hi128) (bit_ b i hi128) (set_ s i hs128 hi128 (bit_zero h1)) k) (ih (i + 1) _ _ hi1 h3.symm h4.symm)
theorem radd_ (a b : Nat) (ha : a < 340282366920938463463374607431768211456) (hb : b < 340282366920938463463374607431768211456) :
    Ev (fun k => abacistref01_Add.f k (hiw a) (low a) (hiw b) (low b)) (hiw ((a + b) % 340282366920938463463374607431768211456), low ((a + b) % 340282366920938463463374607431768211456), (((a + b) / 340282366920938463463374607431768211456 : Nat) : Int)) := by
  have h := radd_loop a b 128 0 0 0 (by omega) (by simp [Nat.mod_one]) (by simp [Nat.mod_one])
  rw [Nat.mod_eq_of_lt ha, Nat.mod_eq_of_lt hb] at h
  exact Ev.congr (fun k => rfl) h
theorem less_ (a b : Nat) : abacistref01_Less.f (hiw a) (low a) (hiw b) (low b) = some (decide (a < b)) := by
  unfold abacistref01_Less.f hiw low
  by_cases h : a / 18446744073709551616 < b / 18446744073709551616
  · rw [if_pos (by omega), decide_eq_true (by omega)]
  · rw [if_neg (by omega)]
    by_cases h2 : a / 18446744073709551616 = b / 18446744073709551616
    · rw [if_pos (by omega)]
      congr 1
      rw [decide_eq_decide]
      omega
    · rw [if_neg (by omega), decide_eq_false (by omega)]
theorem xor_all (x : Nat) (h : x < 18446744073709551616) : Go.bits .xor .u64 (x : Int) 18446744073709551615 = ((18446744073709551615 - x : Nat) : Int) := by
  have e : (18446744073709551615 : Int) = ((18446744073709551615 : Nat) : Int) := rfl
  rw [e, u64_xor_nat x _ h (by omega)]
  congr 1
  have h2 : x ^^^ (2 ^ 64 - 1) = 2 ^ 64 - 1 - x := by
    apply Nat.eq_of_testBit_eq
    intro j
    have e0 : 2 ^ 64 - 1 - x = 2 ^ 64 - (x + 1) := by omega
    rw [e0, Nat.testBit_xor, Nat.testBit_two_pow_sub_one, Nat.testBit_two_pow_sub_succ (by rw [e64]; exact h)]
    by_cases hj : j < 64
    · simp [hj]
    · have : x.testBit j = false := Nat.testBit_lt_two_pow (Nat.lt_of_lt_of_le (by rw [e64]; exact h) (Nat.pow_le_pow_right (n := 2) (by omega) (show 64 ≤ j by omega)))
      simp [hj, this]
  rw [e64] at h2
  exact h2
theorem rsub_ (a b : Nat) (ha : a < 340282366920938463463374607431768211456) (hb : b < 340282366920938463463374607431768211456) :
    Ev (fun k => abacistref01_Sub.f k (hiw a) (low a) (hiw b) (low b)) (hiw ((a + 340282366920938463463374607431768211456 - b) % 340282366920938463463374607431768211456), low ((a + 340282366920938463463374607431768211456 - b) % 340282366920938463463374607431768211456), if a < b then 1 else 0) := by
  have x1 : Go.bits .xor .u64 (hiw b) 18446744073709551615 = hiw (340282366920938463463374607431768211456 - 1 - b) := by
    unfold hiw; rw [xor_all _ (by omega)]; omega
  have x2 : Go.bits .xor .u64 (low b) 18446744073709551615 = low (340282366920938463463374607431768211456 - 1 - b) := by
    unfold low; rw [xor_all _ (by omega)]; omega
  have h1 := radd_ a (340282366920938463463374607431768211456 - 1 - b) ha (by omega)
  have h2 := radd_ ((a + (340282366920938463463374607431768211456 - 1 - b)) % 340282366920938463463374607431768211456) 1 (Nat.mod_lt _ (by omega)) (by omega)
  have e1 : hiw 1 = 0 := rfl
  have e2 : low 1 = 1 := rfl
  rw [e1, e2] at h2
  have e3 : ((a + (340282366920938463463374607431768211456 - 1 - b)) % 340282366920938463463374607431768211456 + 1) % 340282366920938463463374607431768211456 = (a + 340282366920938463463374607431768211456 - b) % 340282366920938463463374607431768211456 := by omega
  rw [e3] at h2
  refine Ev.congr (f := fun k => (abacistref01_Add.f k (hiw a) (low a) (hiw (340282366920938463463374607431768211456 - 1 - b)) (low (340282366920938463463374607431768211456 - 1 - b))).bind fun bt160 => ((abacistref01_Add.f k bt160.1 bt160.2.1 0 1).bind fun bt164 => ((abacistref01_Less.f (hiw a) (low a) (hiw b) (low b)).bind fun t168 => (if t168 = true then (some (bt164.1, bt164.2.1, 1)) else (some (bt164.1, bt164.2.1, 0)))))) (fun k => ?_) ?_
  · unfold abacistref01_Sub.f; rw [x1, x2]
  · refine Ev.bind h1 (Ev.bind h2 ?_)
    rw [less_]
    by_cases h : a < b
    · simp only [h, decide_true, Option.bind_some, if_true]; exact Ev.now _
    · simp only [h, decide_false, Option.bind_some, if_false]; exact Ev.now _
end Go.Proofs.Ytmmgiolhfekplaa.Pure
