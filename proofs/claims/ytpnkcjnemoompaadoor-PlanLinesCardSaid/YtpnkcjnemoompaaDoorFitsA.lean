import Derived.Test.YtpnkcjnemoompaaDoorNums
import Derived.Laws.BitsAllLaws
import Derived.OpenShut
import Derived.Test.YtpnkcjnemoompaaDoorPPlanx2
import Derived.Test.YtpnkcjnemoompaaDoorPPlanx3
import Derived.Test.YtpnkcjnemoompaaDoorWNEv
--NEEDS root_Fits abacistref03_Fits
set_option linter.unusedVariables false
set_option linter.unusedSimpArgs false
namespace Go.Proofs.YtpnkcjnemoompaaDoor.Pure
open Go.RowKit Go.Proofs.YtpnkcjnemoompaaDoor Go.Proofs.YtpnkcjnemoompaaDoor.PPlan Go.Proofs.YtpnkcjnemoompaaDoor.Ext Go.Proofs.YtpnkcjnemoompaaDoorW.PrintWords Go.Proofs.YtpnkcjnemoompaaDoorW.PrintLast Go.Proofs.YtpnkcjnemoompaaDoorW.PrintMore

/-! ### powers of two -/
theorem and_pred (k m : Nat) : (2 ^ k * (2 * m + 1)) &&& (2 ^ k * (2 * m + 1) - 1) = 2 ^ k * (2 * m) := by
  have hp := Nat.two_pow_pos k
  have e : 2 ^ k * (2 * m + 1) - 1 = 2 ^ k * (2 * m) + (2 ^ k - 1) := by rw [Nat.mul_add]; omega
  rw [e]
  apply Nat.eq_of_testBit_eq
  intro j
  have h1 := Nat.testBit_two_pow_mul_add (2 * m + 1) hp j
  have h2 := Nat.testBit_two_pow_mul_add (2 * m) (show 2 ^ k - 1 < 2 ^ k by omega) j
  have h3 := Nat.testBit_two_pow_mul_add (2 * m) hp j
  rw [Nat.add_zero] at h1 h3
  rw [Nat.testBit_and, h1, h2, h3]
  by_cases hj : j < k
  · simp [hj]
  · simp only [hj, if_false]
    cases hd : j - k with
    | zero => simp [Nat.testBit_zero]
    | succ d =>
      rw [Nat.testBit_succ, Nat.testBit_succ, show (2 * m + 1) / 2 = m by omega, show 2 * m / 2 = m by omega, Bool.and_self]
theorem odd_part (n : Nat) (h0 : 0 < n) (h : n < 18446744073709551616) : ∃ m, n = 2 ^ Lib.ctz 64 n * (2 * m + 1) ∧ Lib.ctz 64 n < 64 := by
  obtain ⟨m, hm, hk⟩ := Lib.ctzFrom_spec 64 n h0 (by rw [e64]; exact h)
  have e : Lib.ctz 64 n = Lib.ctzFrom 64 n := by simp [Lib.ctz]; omega
  rw [e]; exact ⟨m, hm, hk⟩
theorem pow_inj {a b : Nat} (h : 2 ^ a = 2 ^ b) : a = b := by
  rcases Nat.lt_trichotomy a b with c | c | c
  · have := Nat.pow_lt_pow_right (show 1 < 2 by omega) c; omega
  · exact c
  · have := Nat.pow_lt_pow_right (show 1 < 2 by omega) c; omega
theorem ctz_pow (k : Nat) (hk : k ≤ 62) : Lib.ctz 64 (2 ^ k) = k := by
  have hp : 2 ^ k < 18446744073709551616 := by rw [← e64]; exact Nat.pow_lt_pow_right (by omega) (by omega)
  obtain ⟨m, h1, h2⟩ := odd_part (2 ^ k) (Nat.two_pow_pos k) hp
  generalize Lib.ctz 64 (2 ^ k) = c at *
  rcases Nat.lt_trichotomy c k with h | h | h
  · have e := pow_split (Nat.le_of_lt h)
    rw [e] at h1
    have h3 := Nat.eq_of_mul_eq_mul_left (Nat.two_pow_pos c) h1
    have e2 : 2 ^ (k - c) = 2 * 2 ^ (k - c - 1) := by rw [← Nat.pow_succ']; congr 1; omega
    omega
  · exact h
  · have h3 := Nat.pow_lt_pow_right (show 1 < 2 by omega) h
    have h4 : 2 ^ c * 1 ≤ 2 ^ c * (2 * m + 1) := Nat.mul_le_mul_left _ (by omega)
    omega
/-- What is a power of two, of an exponent to 32. -/
theorem fits_yes (k : Nat) (hk : k ≤ 32) : root_Fits.f ((2 ^ k : Nat) : Int) = some ((k : Int), true) := by
  have hp := pow32 hk
  have hp0 := Nat.two_pow_pos k
  unfold root_Fits.f
  have e1 : wrap64 (((2 ^ k : Nat) : Int) - 1) = ((2 ^ k - 1 : Nat) : Int) := by
    generalize 2 ^ k = y at *
    unfold wrap64; omega
  have e2 : 2 ^ k &&& (2 ^ k - 1) = 0 := by have h := and_pred k 0; rw [Nat.mul_zero, Nat.zero_add, Nat.mul_one, Nat.mul_zero] at h; exact h
  have e3 := ctz_pow k (by omega)
  rw [if_neg (by omega), if_neg (by omega), e1, and_i _ _ (by omega) (by omega), e2, if_pos (by rfl), wrap_u _ (by omega) (by omega)]
  unfold bits_TrailingZeros64.f
  rw [if_pos (by omega), Int.toNat_natCast, e3]
  rfl
/-- n is a power of two, of an exponent to 32. -/
def Pw (n : Int) (k : Nat) : Prop := k ≤ 32 ∧ n = ((2 ^ k : Nat) : Int)
theorem Pw.uniq {n : Int} {a b : Nat} (h : Pw n a) (k : Pw n b) : a = b := pow_inj (by have := h.2; have := k.2; omega)
theorem fits_no (n : Int) (h : ∀ k, ¬ Pw n k) : root_Fits.f n = some (0, false) := by
  unfold root_Fits.f
  by_cases h1 : n < 1
  · rw [if_pos h1]
  · by_cases h2 : n > 4294967296
    · rw [if_neg h1, if_pos h2]
    · rw [if_neg h1, if_neg h2]
      obtain ⟨x, rfl⟩ := Int.eq_ofNat_of_zero_le (show 0 ≤ n by omega)
      have e1 : wrap64 ((x : Int) - 1) = ((x - 1 : Nat) : Int) := by unfold wrap64; omega
      rw [e1, and_i _ _ (by omega) (by omega)]
      obtain ⟨m, hm, hk⟩ := odd_part x (by omega) (by omega)
      have ha := and_pred (Lib.ctz 64 x) m
      rw [← hm] at ha
      have hp := Nat.two_pow_pos (Lib.ctz 64 x)
      by_cases hm0 : m = 0
      · subst hm0
        rw [Nat.mul_zero, Nat.zero_add, Nat.mul_one] at hm
        have hc : Lib.ctz 64 x ≤ 32 := by
          apply Nat.le_of_not_lt
          intro c
          have h3 := pow_mono (show 33 ≤ Lib.ctz 64 x by omega)
          have e33 : (2 : Nat) ^ 33 = 8589934592 := by decide
          rw [e33, ← hm] at h3
          omega
        exact absurd ⟨hc, by rw [← hm]⟩ (h (Lib.ctz 64 x))
      · have hpos : 0 < 2 ^ Lib.ctz 64 x * (2 * m) := Nat.mul_pos hp (by omega)
        rw [ha, if_neg (by omega)]
theorem pw_cases (n : Int) : (∃ k, Pw n k) ∨ (∀ k, ¬ Pw n k) := by
  by_cases h : ∃ k, Pw n k
  · exact .inl h
  · exact .inr fun k hk => h ⟨k, hk⟩
theorem rfits_loop (n : Int) (d : Nat) : ∀ k : Nat, k + d = 33 →
    ((∃ a, k ≤ a ∧ Pw n a ∧ Ev (fun r => abacistref03_Fits.l0 r n ((2 ^ k : Nat) : Int) (k : Int)) (a : Int)) ∨ ((∀ a, k ≤ a → ¬ Pw n a) ∧ Ev (fun r => abacistref03_Fits.l0 r n ((2 ^ k : Nat) : Int) (k : Int)) (-1))) := by
  induction d with
  | zero =>
    intro k hk
    refine .inr ⟨fun a ha hp => by have := hp.1; omega, Ev.step (f := fun _ => some (-1)) (fun r => ?_) (Ev.now _)⟩
    simp only [abacistref03_Fits.l0]
    rw [if_neg (by omega)]
  | succ d ih =>
    intro k hk
    have hk32 : k ≤ 32 := by omega
    have hp := pow32 hk32
    have e1 : wrap64 (2 * ((2 ^ k : Nat) : Int)) = ((2 ^ (k + 1) : Nat) : Int) := by
      rw [Nat.pow_succ]
      generalize 2 ^ k = y at *
      unfold wrap64; omega
    have e2 : wrap64 ((k : Int) + 1) = ((k + 1 : Nat) : Int) := by unfold wrap64; omega
    by_cases hn : n = ((2 ^ k : Nat) : Int)
    · refine .inl ⟨k, Nat.le_refl _, ⟨hk32, hn⟩, Ev.step (f := fun _ => some (k : Int)) (fun r => ?_) (Ev.now _)⟩
      simp only [abacistref03_Fits.l0]
      rw [if_pos (by omega), if_pos hn]
    · have go : ∀ r, abacistref03_Fits.l0 (r + 1) n ((2 ^ k : Nat) : Int) (k : Int) = abacistref03_Fits.l0 r n ((2 ^ (k + 1) : Nat) : Int) ((k + 1 : Nat) : Int) := by
        intro r
        simp only [abacistref03_Fits.l0]
        rw [if_pos (by omega), if_neg hn, e1, e2]
      rcases ih (k + 1) (by omega) with ⟨a, h1, h2, h3⟩ | ⟨h1, h2⟩
      · exact .inl ⟨a, by omega, h2, Ev.step go h3⟩
      · refine .inr ⟨fun a ha hpa => ?_, Ev.step go h2⟩
        rcases Nat.lt_or_ge k a with c | c
        · exact h1 a c hpa
        · obtain rfl : a = k := by omega
          exact hn hpa.2
theorem rfits_yes (n : Int) (k : Nat) (h : Pw n k) : Ev (fun r => abacistref03_Fits.f r n) (k : Int) := by
  rcases rfits_loop n 33 0 rfl with ⟨a, _, h2, h3⟩ | ⟨h1, _⟩
  · obtain rfl := h2.uniq h
    exact Ev.congr (fun _ => rfl) h3
  · exact absurd h (h1 k (Nat.zero_le _))
theorem rfits_no (n : Int) (h : ∀ k, ¬ Pw n k) : Ev (fun r => abacistref03_Fits.f r n) (-1) := by
  rcases rfits_loop n 33 0 rfl with ⟨a, _, h2, _⟩ | ⟨_, h2⟩
  · exact absurd h2 (h a)
  · exact Ev.congr (fun _ => rfl) h2
end Go.Proofs.YtpnkcjnemoompaaDoor.Pure
