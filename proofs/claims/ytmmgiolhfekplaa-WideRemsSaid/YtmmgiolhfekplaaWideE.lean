import Derived.Laws.BitsAllLaws
import Derived.OpenShut
import Derived.Test.YtmmgiolhfekplaaPWidex2
import Derived.Test.YtmmgiolhfekplaaPWidex3
import Derived.Test.YtmmgiolhfekplaaPWidex4
import Derived.Test.YtmmgiolhfekplaaPWidex5
import Derived.Test.YtmmgiolhfekplaaWNEv
import Derived.Test.YtmmgiolhfekplaaWideC
set_option linter.unusedVariables false
set_option linter.unusedSimpArgs false
namespace Go.Proofs.Ytmmgiolhfekplaa.Pure
open Go.RowKit Go.Proofs.Ytmmgiolhfekplaa Go.Proofs.Ytmmgiolhfekplaa.PWide Go.Proofs.Ytmmgiolhfekplaa.Ext Go.Proofs.YtmmgiolhfekplaaW.PrintWords Go.Proofs.YtmmgiolhfekplaaW.PrintLast Go.Proofs.YtmmgiolhfekplaaW.PrintMore

theorem wmul_ (a b : Nat) (ha : a < 18446744073709551616) (hb : b < 18446744073709551616) : wide_Mul.f (a : Int) (b : Int) = some (hiw (a * b), low (a * b)) := by
  unfold wide_Mul.f bits_Mul64.f
  rw [if_pos (by omega)]
  simp only [Option.bind_some]
  unfold hiw low
  rw [Int.natCast_ediv, Int.natCast_emod, Int.natCast_mul]
  rfl
theorem mul_lt (a b : Nat) (ha : a < 18446744073709551616) (hb : b < 18446744073709551616) : a * b < 340282366920938463463374607431768211456 := by
  have h : a * b < 18446744073709551616 * 18446744073709551616 := Nat.mul_lt_mul_of_lt_of_lt ha hb
  exact h
theorem bit_word (b i : Nat) (hb : b < 18446744073709551616) (hi : i < 64) : Int.tmod (shr .u64 (b : Int) (IntKind.u64.wrap (i : Int))) 2 = ((b / 2 ^ i % 2 : Nat) : Int) := by
  rw [wrap_u _ (by omega) (by omega), shr_u _ _ (by omega)]
  rfl
/-! ### long division, bit by bit -/
theorem div_succ (a i : Nat) : a / 2 ^ i = 2 * (a / 2 ^ (i + 1)) + a / 2 ^ i % 2 := by
  rw [Nat.pow_succ, ← Nat.div_div_eq_div_mul]; omega
theorem rem_go (a m i q r : Nat) (x : Nat) (hm : m < 18446744073709551616) (hr : r < m) (hx : x < 2) (hi : i < 128) (hq : q < 340282366920938463463374607431768211456) (hqi : q / 2 ^ i % 2 = 0)
    (ha : abacistref01_bit.f (hiw a) (low a) (i : Int) = some (x : Int)) {out : Int × Int × Int}
    (next : Ev (fun k => abacistref01_Rem.l0 k (m : Int) ((i : Int) - 1) (hiw a) (low a) (hiw (q + (2 * r + x) / m * 2 ^ i)) (low (q + (2 * r + x) / m * 2 ^ i)) (hiw ((2 * r + x) % m)) (low ((2 * r + x) % m))) out) :
    Ev (fun k => abacistref01_Rem.l0 k (m : Int) (i : Int) (hiw a) (low a) (hiw q) (low q) (hiw r) (low r)) out := by
  have e4 : wrap64 ((i : Int) - 1) = (i : Int) - 1 := by unfold wrap64; omega
  have s1 := rshl_ r 1 (by omega) (by omega)
  have e1 : r * 2 ^ (1 : Int).toNat % 340282366920938463463374607431768211456 = 2 * r := by
    have : (2 : Nat) ^ (1 : Int).toNat = 2 := rfl
    rw [this]; omega
  rw [e1] at s1
  have e2 : IntKind.u64.wrap (low (2 * r) + (x : Int)) = low (2 * r + x) := by
    unfold low; rw [wrap_u _ (by omega) (by omega)]; omega
  have e3 : hiw (2 * r) = hiw (2 * r + x) := by unfold hiw; omega
  have s2 := less_ (2 * r + x) m
  obtain ⟨g1, g2⟩ := hiw_small m hm
  rw [g1, g2] at s2
  refine Ev.step (f := fun k => (abacistref01_Shl.f k (hiw r) (low r) 1).bind fun bt173 => ((abacistref01_bit.f (hiw a) (low a) (i : Int)).bind fun t175 => ((abacistref01_Less.f bt173.1 (IntKind.u64.wrap (bt173.2 + t175)) 0 (m : Int)).bind fun t176 => (if t176 = true then (abacistref01_Rem.l0 k (m : Int) (wrap64 ((i : Int) - 1)) (hiw a) (low a) (hiw q) (low q) bt173.1 (IntKind.u64.wrap (bt173.2 + t175))) else ((abacistref01_Sub.f k bt173.1 (IntKind.u64.wrap (bt173.2 + t175)) 0 (m : Int)).bind fun bt177 => ((abacistref01_set.f (hiw q) (low q) (i : Int)).bind fun bt181 => (abacistref01_Rem.l0 k (m : Int) (wrap64 ((i : Int) - 1)) (hiw a) (low a) bt181.1 bt181.2 bt177.1 bt177.2.1))))))) (fun k => ?_) ?_
  · simp only [abacistref01_Rem.l0]
    rw [if_pos (by omega)]
  · refine Ev.bind s1 ?_
    rw [ha]
    simp only [Option.bind_some]
    rw [e2, e3, s2, e4]
    simp only [Option.bind_some]
    by_cases hlt : 2 * r + x < m
    · rw [decide_eq_true hlt]
      simp only [if_true]
      rw [Nat.div_eq_of_lt hlt, Nat.mod_eq_of_lt hlt, Nat.zero_mul, Nat.add_zero] at next
      exact next
    · rw [decide_eq_false hlt]
      simp only [Bool.false_eq_true, if_false]
      have s3 := rsub_ (2 * r + x) m (by omega) (by omega)
      rw [g1, g2] at s3
      have e5 : (2 * r + x + 340282366920938463463374607431768211456 - m) % 340282366920938463463374607431768211456 = 2 * r + x - m := by omega
      rw [e5] at s3
      refine Ev.bind s3 ?_
      have hd : (2 * r + x) / m = 1 := Nat.div_eq_of_lt_le (by omega) (by omega)
      have hmd : (2 * r + x) % m = 2 * r + x - m := by have := Nat.div_add_mod (2 * r + x) m; rw [hd] at this; omega
      rw [hd, hmd, Nat.one_mul] at next
      rw [set_ q i hq hi hqi]
      simp only [Option.bind_some]
      exact next
theorem rem_loop (a m : Nat) (ha : a < 340282366920938463463374607431768211456) (hm0 : 0 < m) (hm : m < 18446744073709551616) (n : Nat) : n ≤ 128 →
    Ev (fun k => abacistref01_Rem.l0 k (m : Int) ((n : Int) - 1) (hiw a) (low a) (hiw (a / 2 ^ n / m * 2 ^ n)) (low (a / 2 ^ n / m * 2 ^ n)) (hiw (a / 2 ^ n % m)) (low (a / 2 ^ n % m))) (hiw (a / m), low (a / m), ((a % m : Nat) : Int)) := by
  induction n with
  | zero =>
    intro _
    rw [Nat.pow_zero, Nat.div_one, Nat.mul_one]
    have hlt := Nat.mod_lt a hm0
    refine Ev.step (f := fun _ => some (hiw (a / m), low (a / m), low (a % m))) (fun k => ?_) ?_
    · simp only [abacistref01_Rem.l0]
      rw [if_neg (by omega)]
    · rw [(hiw_small (a % m) (by omega)).2]; exact Ev.now _
  | succ n ih =>
    intro hn
    have ihx := ih (by omega)
    have hd := div_succ a n
    have hx := bit_lt a n
    have hr := Nat.mod_lt (a / 2 ^ (n + 1)) hm0
    have hbit := bit_ a n (by omega)
    have hqle : a / 2 ^ (n + 1) / m * 2 ^ (n + 1) ≤ a := Nat.le_trans (Nat.mul_le_mul_right _ (Nat.div_le_self _ _)) (Nat.div_mul_le_self _ _)
    generalize a / 2 ^ n % 2 = x at *
    have e1 : (2 * (a / 2 ^ (n + 1) % m) + x) % m = a / 2 ^ n % m := by
      rw [hd, Nat.add_mod, Nat.mul_mod, Nat.mod_mod, ← Nat.mul_mod, ← Nat.add_mod]
    have e2 : a / 2 ^ (n + 1) / m * 2 ^ (n + 1) + (2 * (a / 2 ^ (n + 1) % m) + x) / m * 2 ^ n = a / 2 ^ n / m * 2 ^ n := by
      have h3 : a / 2 ^ n = 2 * (a / 2 ^ (n + 1) % m) + x + m * (2 * (a / 2 ^ (n + 1) / m)) := by
        have h4 := Nat.div_add_mod (a / 2 ^ (n + 1)) m
        rw [hd]
        generalize a / 2 ^ (n + 1) / m = u at *
        generalize a / 2 ^ (n + 1) % m = w at *
        rw [Nat.mul_left_comm]
        omega
      rw [h3, Nat.add_mul_div_left _ _ hm0, Nat.add_mul]
      generalize (2 * (a / 2 ^ (n + 1) % m) + x) / m = u
      generalize a / 2 ^ (n + 1) / m = w
      rw [Nat.pow_succ]
      generalize 2 ^ n = p
      rw [Nat.mul_comm p 2, ← Nat.mul_assoc, Nat.mul_comm w 2]
      generalize 2 * w * p = y
      generalize u * p = z
      omega
    have e3 : a / 2 ^ (n + 1) / m * 2 ^ (n + 1) / 2 ^ n % 2 = 0 := by
      rw [Nat.pow_succ, ← Nat.mul_assoc, Nat.mul_right_comm, Nat.mul_div_cancel _ (Nat.two_pow_pos n), Nat.mul_mod_left]
    have e5 : ((n + 1 : Nat) : Int) - 1 = (n : Int) := by omega
    rw [e5]
    refine rem_go a m n _ _ x hm hr hx (by omega) (Nat.lt_of_le_of_lt hqle ha) e3 hbit ?_
    rw [e1, e2]
    exact ihx
theorem rrem_ (a m : Nat) (ha : a < 340282366920938463463374607431768211456) (hm0 : 0 < m) (hm : m < 18446744073709551616) : Ev (fun k => abacistref01_Rem.f k (hiw a) (low a) (m : Int)) (hiw (a / m), low (a / m), ((a % m : Nat) : Int)) := by
  have h := rem_loop a m ha hm0 hm 128 (Nat.le_refl _)
  have e : a / 2 ^ 128 = 0 := by rw [e128]; exact Nat.div_eq_of_lt ha
  rw [e, Nat.zero_div, Nat.zero_mul, Nat.zero_mod] at h
  exact h
end Go.Proofs.Ytmmgiolhfekplaa.Pure
