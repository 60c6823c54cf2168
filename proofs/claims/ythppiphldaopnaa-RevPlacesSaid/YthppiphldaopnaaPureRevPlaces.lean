/- Any place turned about, by bits and by digits, is as the document says, and turned about twice it is the same: for all three arguments of 64 bits, without a condition. -/
import Derived.Test.YthppiphldaopnaaRevPlacesA
namespace Go.Proofs.Ythppiphldaopnaa.Pure
open Go.RowKit Go.Proofs.Ythppiphldaopnaa Go.Proofs.Ythppiphldaopnaa.PRevPlaces Go.Proofs.YthppiphldaopnaaW.PrintWords Go.Proofs.YthppiphldaopnaaW.PrintLast Go.Proofs.YthppiphldaopnaaW.PrintMore

theorem RevPlaces : abacistlaw05_RevPlaces.Pure := by
  intro a0 a1 a2 _ _ _
  obtain ⟨n, hn⟩ : ∃ n : Nat, 60 ≤ n := ⟨60, Nat.le_refl _⟩
  refine ⟨n + 1 + 1 + 1, ?_⟩
  unfold abacistlaw05_RevPlaces.f
  rw [awake_]
  simp only [Option.bind_some, if_true]
  by_cases h : 0 ≤ a1 ∧ a1 ≤ 32 ∧ 0 ≤ a0 ∧ a0 < 2 ^ a1.toNat
  · obtain ⟨h1, h2, h3, h4⟩ := h
    obtain ⟨k, rfl⟩ := Int.eq_ofNat_of_zero_le h1
    obtain ⟨i, rfl⟩ := Int.eq_ofNat_of_zero_le h3
    have hk : k ≤ 32 := by omega
    have hi : i < 2 ^ k := by
      have e : ((2 : Int) ^ (k : Int).toNat) = ((2 ^ k : Nat) : Int) := by simp
      rw [e] at h4; omega
    have hp := pow_le hk
    have hD := Rv.D_lt 2 (by omega) k i
    rw [bits_yes k i hk hi]
    have hb2 := bits_yes k (Rv.D 2 k i) hk hD
    rw [Rv.D_D 2 (by omega) k i hi] at hb2
    have href := rdigits_ 1 k i (by omega) (by omega) (by omega) (by omega) (n + 1 + 1) (by omega)
    simp only [Nat.mul_one, Nat.pow_one] at href
    have href' : abacistref05_Digits.f (n + 1 + 1) (i : Int) (k : Int) 1 = some ((Rv.D 2 k i : Nat) : Int) := href
    have key : ∀ (x9 x10 : Int), abacistlaw05_RevPlaces.j1 (n + 1 + 1) (i : Int) (k : Int) a2 x9 x10 false = some true →
        abacistlaw05_RevPlaces.j0 (n + 1 + 1 + 1) (i : Int) (k : Int) a2 ((Rv.D 2 k i : Nat) : Int) 0 x9 x10 false = some true := by
      intro x9 x10 hj
      simp only [abacistlaw05_RevPlaces.j0]
      rw [if_neg (by decide), hb2]
      simp only [Option.bind_some, if_true]
      rw [href']
      simp only [Option.bind_some, if_true]
      have e : ((i : Int) != (i : Int)) = false := by simp
      rw [e]
      exact hj
    have hlt : decide ((i : Int) ≥ shl .i64 1 (IntKind.u64.wrap (k : Int))) = false := by
      rw [shl1 k hk]; exact decide_eq_false (by omega)
    by_cases hg : 1 ≤ a2 ∧ a2 ≤ 8 ∧ Int.tmod (k : Int) a2 = 0
    · obtain ⟨g1, g2, g3⟩ := hg
      obtain ⟨r, rfl⟩ := Int.eq_ofNat_of_zero_le (show 0 ≤ a2 by omega)
      have g3' : k % r = 0 := by rw [← Int.ofNat_tmod] at g3; omega
      obtain ⟨m, rfl⟩ : ∃ m, k = m * r := ⟨k / r, by rw [Nat.mul_comm]; have := Nat.div_add_mod k r; omega⟩
      have hm : m ≤ m * r := Nat.le_mul_of_pos_right _ (by omega)
      have hbp : (2 ^ r) ^ m = 2 ^ (m * r) := by rw [← Nat.pow_mul, Nat.mul_comm]
      have hD2 := Rv.D_lt (2 ^ r) (Nat.two_pow_pos r) m i
      rw [hbp] at hD2
      have hb1 : 1 < 2 ^ r := Nat.one_lt_two_pow (by omega)
      rw [digits_yes r m i (by omega) (by omega) (by omega) hi (n + 1 + 1 + 1) (by omega)]
      simp only [Option.bind_some]
      rw [if_neg (by omega), if_neg (by omega), if_neg (by omega), if_pos (by rw [wrap_u (m * r) (by omega)]; omega), hlt]
      refine key _ _ ?_
      simp only [abacistlaw05_RevPlaces.j1]
      rw [if_neg (by decide), if_neg (by omega), if_neg (by omega), if_neg (by omega), g3]
      have e : ((0 : Int) != 0) = false := by decide
      rw [e]
      simp only [abacistlaw05_RevPlaces.j2]
      rw [if_neg (by decide), digits_yes r m (Rv.D (2 ^ r) m i) (by omega) (by omega) (by omega) hD2 n (by omega), Rv.D_D _ hb1 m i (by rw [hbp]; exact hi)]
      simp only [Option.bind_some, if_true]
      rw [rdigits_ r m i (by omega) (by omega) (by omega) (by omega) n (by omega)]
      simp
    · rw [digits_no2 (n + 1 + 1 + 1) _ _ _ ⟨h1, h2, h3, h4⟩ hg]
      simp only [Option.bind_some]
      rw [if_neg (by omega), if_neg (by omega), if_neg (by omega), if_pos (by rw [wrap_u k (by omega)]; omega), hlt]
      refine key _ _ ?_
      simp only [abacistlaw05_RevPlaces.j1]
      rw [if_neg (by decide)]
      have hj2 : abacistlaw05_RevPlaces.j2 (n + 1) (i : Int) (k : Int) a2 0 1 true = some true := by
        simp [abacistlaw05_RevPlaces.j2]
      by_cases q1 : a2 < 1
      · rw [if_pos q1, hj2]
      · by_cases q2 : a2 > 8
        · rw [if_neg q1, if_pos q2, hj2]
        · rw [if_neg q1, if_neg q2, if_neg (by omega)]
          have e : ((Int.tmod (k : Int) a2) != 0) = true := by
            rw [bne_iff_ne]; exact fun h => hg ⟨by omega, by omega, h⟩
          rw [e, hj2]
  · rw [bits_no a0 a1 h, digits_no1 (n + 1 + 1 + 1) a0 a1 a2 h]
    simp only [Option.bind_some]
    have hj0 : abacistlaw05_RevPlaces.j0 (n + 1 + 1 + 1) a0 a1 a2 0 1 0 1 true = some true := by
      simp [abacistlaw05_RevPlaces.j0]
    by_cases q1 : a1 < 0
    · rw [if_pos q1, hj0]
    · by_cases q2 : a1 > 32
      · rw [if_neg q1, if_pos q2, hj0]
      · by_cases q3 : a0 < 0
        · rw [if_neg q1, if_neg q2, if_pos q3, hj0]
        · obtain ⟨k, rfl⟩ := Int.eq_ofNat_of_zero_le (show 0 ≤ a1 by omega)
          rw [if_neg q1, if_neg q2, if_neg q3, shl1 k (by omega), wrap_u k (by omega), if_pos (by omega), decide_eq_true (by
            have e : ((2 : Int) ^ (k : Int).toNat) = ((2 ^ k : Nat) : Int) := by simp
            rw [e] at h
            omega), hj0]
end Go.Proofs.Ythppiphldaopnaa.Pure
