namespace Go.Proofs.YthppiphldaopnaaDoor.Rv
/-- The digits of i turned about: n digits to the base b. -/
def D (b : Nat) : Nat → Nat → Nat
  | 0, _ => 0
  | n + 1, i => (i % b) * b ^ n + D b n (i / b)
theorem D_lt (b : Nat) (hb : 0 < b) : ∀ n i, D b n i < b ^ n
  | 0, i => by simp [D]
  | n + 1, i => by
    unfold D
    have h1 := D_lt b hb n (i / b)
    have h2 : i % b < b := Nat.mod_lt _ hb
    have h3 : (i % b + 1) * b ^ n ≤ b * b ^ n := Nat.mul_le_mul_right _ h2
    rw [Nat.pow_succ, Nat.mul_comm (b ^ n) b]
    rw [Nat.add_mul, Nat.one_mul] at h3
    omega
theorem div_pow_succ (i b m : Nat) : i / b / b ^ m = i / b ^ (m + 1) := by
  rw [Nat.div_div_eq_div_mul, Nat.pow_succ, Nat.mul_comm]
theorem D_digit (b : Nat) (hb : 0 < b) : ∀ n i j, j < n → D b n i / b ^ j % b = i / b ^ (n - 1 - j) % b
  | 0, _, _, h => by omega
  | n + 1, i, j, h => by
    unfold D
    have h1 := D_lt b hb n (i / b)
    rcases Nat.lt_or_ge j n with hj | hj
    · have e : b ^ n = b ^ j * b * b ^ (n - 1 - j) := by
        rw [← Nat.pow_succ, ← Nat.pow_add]; congr 1; omega
      have hp : 0 < b ^ j := Nat.pow_pos hb
      rw [e, Nat.mul_comm (b ^ j) b, Nat.mul_assoc, Nat.mul_comm b, Nat.mul_assoc (b ^ j), ← Nat.mul_assoc (i % b), Nat.mul_comm (i % b), Nat.mul_assoc (b ^ j), Nat.mul_add_div hp, ← Nat.mul_assoc, Nat.add_comm, Nat.add_mul_mod_self_right, D_digit b hb n (i / b) j hj, div_pow_succ]
      congr 3
      omega
    · have e : j = n := by omega
      subst e
      have hp : 0 < b ^ j := Nat.pow_pos hb
      rw [Nat.mul_comm, Nat.mul_add_div hp, Nat.div_eq_of_lt h1]
      simp
theorem digit_ext (b : Nat) (hb : 1 < b) : ∀ n x y, x < b ^ n → y < b ^ n → (∀ j, j < n → x / b ^ j % b = y / b ^ j % b) → x = y
  | 0, x, y, hx, hy, _ => by simp at hx hy; omega
  | n + 1, x, y, hx, hy, h => by
    have h0 := h 0 (by omega)
    simp only [Nat.pow_zero, Nat.div_one] at h0
    have := digit_ext b hb n (x / b) (y / b) (Nat.div_lt_of_lt_mul (by rw [Nat.pow_succ, Nat.mul_comm] at hx; exact hx)) (Nat.div_lt_of_lt_mul (by rw [Nat.pow_succ, Nat.mul_comm] at hy; exact hy)) (fun j hj => by
      rw [div_pow_succ, div_pow_succ]; exact h (j + 1) (by omega))
    rw [← Nat.div_add_mod x b, ← Nat.div_add_mod y b, this, h0]
theorem D_D (b : Nat) (hb : 1 < b) (n i : Nat) (hi : i < b ^ n) : D b n (D b n i) = i := by
  refine digit_ext b hb n _ _ (D_lt b (by omega) n _) hi (fun j hj => ?_)
  rw [D_digit b (by omega) n _ j hj, D_digit b (by omega) n i _ (by omega)]
  congr 3
  omega
/-- The loop of the document's answer. -/
def G (b : Nat) : Nat → Nat → Nat → Nat
  | 0, _, o => o
  | n + 1, i, o => G b n (i / b) (b * o + i % b)
theorem G_eq (b : Nat) : ∀ n i o, G b n i o = o * b ^ n + D b n i
  | 0, i, o => by simp [G, D]
  | n + 1, i, o => by
    unfold G D
    rw [G_eq b n, Nat.add_mul, Nat.pow_succ, Nat.mul_comm b o, Nat.mul_assoc, Nat.mul_comm b]
    omega
theorem testBit_D (n i j : Nat) : (D 2 n i).testBit j = (decide (j < n) && i.testBit (n - 1 - j)) := by
  rcases Nat.lt_or_ge j n with h | h
  · rw [Nat.testBit_eq_decide_div_mod_eq, Nat.testBit_eq_decide_div_mod_eq, D_digit 2 (by omega) n i j h]
    simp [h]
  · rw [Nat.testBit_lt_two_pow (Nat.lt_of_lt_of_le (D_lt 2 (by omega) n i) (Nat.pow_le_pow_right (by omega) h))]
    simp; omega
theorem swap_facts : ∀ s, s < 6 → ∀ j, j < 64 → (j.testBit s = false → j ^^^ 2 ^ s = j + 2 ^ s ∧ (2 ^ s ≤ j → (j - 2 ^ s).testBit s = true)) ∧ (j.testBit s = true → 2 ^ s ≤ j ∧ j ^^^ 2 ^ s = j - 2 ^ s ∧ (j - 2 ^ s).testBit s = false) := by decide +kernel
/-- One step of turning 64 bits about: blocks of 2^s bits change places with their neighbours. -/
theorem swap_bit (s m x : Nat) (hm : ∀ j, j < 64 → m.testBit j = ! j.testBit s) (hs : s < 6) (j : Nat) (hj : j < 64) :
    (((x / 2 ^ 2 ^ s) &&& m) ||| ((x &&& m) * 2 ^ 2 ^ s) % 2 ^ 64).testBit j = x.testBit (j ^^^ 2 ^ s) := by
  obtain ⟨h0, h1⟩ := swap_facts s hs j hj
  rw [Nat.testBit_or, Nat.testBit_and, Nat.testBit_mod_two_pow, Nat.testBit_mul_two_pow, Nat.testBit_and, Nat.testBit_div_two_pow, hm j hj]
  cases e : j.testBit s with
  | false =>
    obtain ⟨h2, h3⟩ := h0 e
    rw [h2]
    rcases Nat.lt_or_ge j (2 ^ s) with h | h
    · have : ¬ (2 ^ s ≤ j) := by omega
      simp [this]
    · rw [hm (j - 2 ^ s) (Nat.lt_of_le_of_lt (Nat.sub_le _ _) hj), h3 h]; simp
  | true =>
    obtain ⟨h2, h3, h4⟩ := h1 e
    rw [h3, hm (j - 2 ^ s) (Nat.lt_of_le_of_lt (Nat.sub_le _ _) hj), h4]
    simp [h2, hj]
def sw (s m x : Nat) : Nat := ((x / 2 ^ 2 ^ s) &&& m) ||| ((x &&& m) * 2 ^ 2 ^ s) % 2 ^ 64
theorem xor_lt (s j : Nat) (hs : s < 6) (hj : j < 64) : j ^^^ 2 ^ s < 64 := Nat.xor_lt_two_pow (n := 6) hj (by have : 2 ^ s ≤ 2 ^ 5 := Nat.pow_le_pow_right (by omega) (by omega); omega)
/-- 64 bits turned about, by six swaps. -/
def rev64 (x : Nat) : Nat := sw 5 4294967295 (sw 4 281470681808895 (sw 3 71777214294589695 (sw 2 1085102592571150095 (sw 1 3689348814741910323 (sw 0 6148914691236517205 x)))))
theorem mask0 : ∀ j, j < 64 → (6148914691236517205 : Nat).testBit j = ! j.testBit 0 := by decide +kernel
theorem mask1 : ∀ j, j < 64 → (3689348814741910323 : Nat).testBit j = ! j.testBit 1 := by decide +kernel
theorem mask2 : ∀ j, j < 64 → (1085102592571150095 : Nat).testBit j = ! j.testBit 2 := by decide +kernel
theorem mask3 : ∀ j, j < 64 → (71777214294589695 : Nat).testBit j = ! j.testBit 3 := by decide +kernel
theorem mask4 : ∀ j, j < 64 → (281470681808895 : Nat).testBit j = ! j.testBit 4 := by decide +kernel
theorem mask5 : ∀ j, j < 64 → (4294967295 : Nat).testBit j = ! j.testBit 5 := by decide +kernel
theorem xor_all : ∀ j, j < 64 → ((((((j ^^^ 2 ^ 5) ^^^ 2 ^ 4) ^^^ 2 ^ 3) ^^^ 2 ^ 2) ^^^ 2 ^ 1) ^^^ 2 ^ 0) = 63 - j := by decide +kernel
theorem rev64_bit (x j : Nat) (hj : j < 64) : (rev64 x).testBit j = x.testBit (63 - j) := by
  unfold rev64
  have b5 := xor_lt 5 j (by omega) hj
  have b4 := xor_lt 4 _ (by omega) b5
  have b3 := xor_lt 3 _ (by omega) b4
  have b2 := xor_lt 2 _ (by omega) b3
  have b1 := xor_lt 1 _ (by omega) b2
  rw [sw, swap_bit 5 _ _ mask5 (by omega) j hj, sw, swap_bit 4 _ _ mask4 (by omega) _ b5, sw, swap_bit 3 _ _ mask3 (by omega) _ b4, sw, swap_bit 2 _ _ mask2 (by omega) _ b3, sw, swap_bit 1 _ _ mask1 (by omega) _ b2, sw, swap_bit 0 _ _ mask0 (by omega) _ b1, xor_all j hj]
theorem sw_lt (s m x : Nat) (hm : m < 2 ^ 64) : sw s m x < 2 ^ 64 :=
  Nat.or_lt_two_pow (Nat.lt_of_le_of_lt Nat.and_le_right hm) (Nat.mod_lt _ (by decide))
theorem rev64_lt (x : Nat) : rev64 x < 2 ^ 64 := sw_lt _ _ _ (by decide)
/-- What Go's last step does: halves change places. -/
theorem sw5 (x : Nat) (hx : x < 18446744073709551616) : (x / 4294967296) ||| (x * 4294967296 % 18446744073709551616) = sw 5 4294967295 x := by
  have h1 : x / 4294967296 &&& 4294967295 = x / 4294967296 := by
    have h := Nat.and_two_pow_sub_one_eq_mod (x / 4294967296) 32
    have e : (2 : Nat) ^ 32 = 4294967296 := by decide
    rw [e] at h
    rw [show (4294967295 : Nat) = 4294967296 - 1 from by decide, h]
    exact Nat.mod_eq_of_lt (by omega)
  have h2 : x &&& 4294967295 = x % 4294967296 := by
    have h := Nat.and_two_pow_sub_one_eq_mod x 32
    have e : (2 : Nat) ^ 32 = 4294967296 := by decide
    rw [e] at h
    rw [show (4294967295 : Nat) = 4294967296 - 1 from by decide, h]
  have h3 : sw 5 4294967295 x = (x / 4294967296 &&& 4294967295) ||| ((x &&& 4294967295) * 4294967296 % 18446744073709551616) := by
    unfold sw
    have e1 : (2 : Nat) ^ 2 ^ 5 = 4294967296 := by decide
    have e2 : (2 : Nat) ^ 64 = 18446744073709551616 := by decide
    rw [e1, e2]
  have h4 : x * 4294967296 % 18446744073709551616 = x % 4294967296 * 4294967296 % 18446744073709551616 := by omega
  rw [h3, h1, h2, h4]
/-- The lower k bits, turned about. -/
theorem rev64_D (k x : Nat) (hk : k ≤ 63) : rev64 x / 2 / 2 ^ (63 - k) = D 2 k x := by
  apply Nat.eq_of_testBit_eq
  intro j
  rw [testBit_D, div_pow_succ, Nat.testBit_div_two_pow]
  rcases Nat.lt_or_ge j k with h | h
  · rw [rev64_bit _ _ (by omega)]
    simp only [h, decide_true, Bool.true_and]
    congr 1
    omega
  · have h2 : ¬ j < k := by omega
    simp only [h2, decide_false, Bool.false_and]
    exact Nat.testBit_lt_two_pow (Nat.lt_of_lt_of_le (rev64_lt x) (Nat.pow_le_pow_right (by omega) (by omega)))
end Go.Proofs.YthppiphldaopnaaDoor.Rv
