import Derived.Laws.BitsAllLaws
import Derived.OpenShut
import Derived.Test.YthppiphldaopnaaDoorPRevAx1
import Derived.Test.YthppiphldaopnaaDoorPRevx1
import Derived.Test.YthppiphldaopnaaDoorPRevx3
import Derived.Test.YthppiphldaopnaaDoorWNEv
import Derived.Test.YthppiphldaopnaaDoorNums
import Derived.Test.YthppiphldaopnaaDoorDig
--NEEDS rev_turned rev_digits rev_goes abacistref05_Digits abacistlaw05_awake rev_place rev_Bits bits_Reverse64
set_option linter.unusedVariables false
set_option linter.unusedSimpArgs false
namespace Go.Proofs.YthppiphldaopnaaDoor.Pure
open Go.RowKit Go.Proofs.YthppiphldaopnaaDoor Go.Proofs.YthppiphldaopnaaDoor.PRev Go.Proofs.YthppiphldaopnaaDoor.PRevA Go.Proofs.YthppiphldaopnaaDoor.Ext Go.Proofs.YthppiphldaopnaaDoorW.PrintWords Go.Proofs.YthppiphldaopnaaDoorW.PrintLast Go.Proofs.YthppiphldaopnaaDoorW.PrintMore

theorem wrap_un (n : Nat) (h : n < 18446744073709551616) : IntKind.u64.wrap (n : Int) = n := wrap_u _ (by omega) (by omega)
theorem sw_int (s m c x : Nat) (mi ci : Int) (hmi : mi = (m : Int)) (hci : ci = (c : Int)) (hc : c = 2 ^ 2 ^ s) (hm : m < 18446744073709551616) (hx : x < 18446744073709551616) :
    Go.bits .or .u64 (Go.bits .and .u64 ((x : Int) / ci) mi) (IntKind.u64.wrap (Go.bits .and .u64 (x : Int) mi * ci)) = ((Rv.sw s m x : Nat) : Int) := by
  subst hmi hci
  have h0 : x / c < 18446744073709551616 := Nat.lt_of_le_of_lt (Nat.div_le_self _ _) hx
  have e0 : ((x : Int) / (c : Int)) = ((x / c : Nat) : Int) := by simp
  rw [e0, u64_and_nat _ _ h0 hm, u64_and_nat _ _ hx hm, IntKind.wrap_u64]
  have e1 : ((x &&& m : Nat) : Int) * (c : Int) % 18446744073709551616 = (((x &&& m) * c % 18446744073709551616 : Nat) : Int) := by
    rw [← Int.natCast_mul]; omega
  rw [e1, u64_or_nat _ _ (Nat.lt_of_le_of_lt Nat.and_le_left h0) (Nat.mod_lt _ (by omega))]
  unfold Rv.sw
  have e2 : (2 : Nat) ^ 64 = 18446744073709551616 := by decide
  rw [hc, e2]
theorem reverse_ (x : Nat) (hx : x < 18446744073709551616) : bits_Reverse64.f (x : Int) = some ((Rv.rev64 x : Nat) : Int) := by
  have e64 : (2 : Nat) ^ 64 = 18446744073709551616 := by decide
  have s0 := sw_int 0 6148914691236517205 2 x 6148914691236517205 2 rfl rfl (by decide) (by omega) hx
  have l0 := Rv.sw_lt 0 6148914691236517205 x (by omega)
  rw [e64] at l0
  have s1 := sw_int 1 3689348814741910323 4 _ 3689348814741910323 4 rfl rfl (by decide) (by omega) l0
  have l1 := Rv.sw_lt 1 3689348814741910323 (Rv.sw 0 6148914691236517205 x) (by omega)
  rw [e64] at l1
  have s2 := sw_int 2 1085102592571150095 16 _ 1085102592571150095 16 rfl rfl (by decide) (by omega) l1
  have l2 := Rv.sw_lt 2 1085102592571150095 (Rv.sw 1 3689348814741910323 (Rv.sw 0 6148914691236517205 x)) (by omega)
  rw [e64] at l2
  have s3 := sw_int 3 71777214294589695 256 _ 71777214294589695 256 rfl rfl (by decide) (by omega) l2
  have l3 := Rv.sw_lt 3 71777214294589695 (Rv.sw 2 1085102592571150095 (Rv.sw 1 3689348814741910323 (Rv.sw 0 6148914691236517205 x))) (by omega)
  rw [e64] at l3
  have s4 := sw_int 4 281470681808895 65536 _ 281470681808895 65536 rfl rfl (by decide) (by omega) l3
  have l4 := Rv.sw_lt 4 281470681808895 (Rv.sw 3 71777214294589695 (Rv.sw 2 1085102592571150095 (Rv.sw 1 3689348814741910323 (Rv.sw 0 6148914691236517205 x)))) (by omega)
  rw [e64] at l4
  unfold Rv.rev64
  rw [← Rv.sw5 _ l4]
  unfold bits_Reverse64.f bits_ReverseBytes64.f
  rw [s0, s1, s2, s3, s4]
  generalize Rv.sw 4 281470681808895 (Rv.sw 3 71777214294589695 (Rv.sw 2 1085102592571150095 (Rv.sw 1 3689348814741910323 (Rv.sw 0 6148914691236517205 x)))) = y at l4
  simp only [Option.bind_some, Option.some.injEq]
  have e1 : IntKind.u64.wrap ((y : Int) * 4294967296) = ((y * 4294967296 % 18446744073709551616 : Nat) : Int) := by rw [IntKind.wrap_u64]; omega
  have e2 : (y : Int) / 4294967296 = ((y / 4294967296 : Nat) : Int) := by omega
  rw [e1, e2, u64_or_nat _ _ (by omega) (by omega)]
theorem pow_le {k : Nat} (hk : k ≤ 32) : 2 ^ k ≤ 4294967296 := by
  have h := Nat.pow_le_pow_right (n := 2) (by omega) hk
  have e : (2 : Nat) ^ 32 = 4294967296 := by decide
  omega
theorem shl1 (k : Nat) (hk : k ≤ 32) : shl .i64 1 (IntKind.u64.wrap (k : Int)) = ((2 ^ k : Nat) : Int) := by
  have := pow_le hk
  rw [wrap_un k (by omega)]
  unfold shl
  have e : min (k : Int).toNat IntKind.i64.bits = k := by simp [IntKind.bits]; omega
  rw [e, IntKind.wrap_i64, Int.one_mul]
  have e2 : ((2 : Int) ^ k) = ((2 ^ k : Nat) : Int) := by simp
  rw [e2]
  generalize 2 ^ k = p at *
  omega
theorem turned_ (k i : Nat) (hk : k ≤ 32) (hi : i < 2 ^ k) : rev_turned.f (i : Int) (k : Int) = some ((Rv.D 2 k i : Nat) : Int) := by
  have hp := pow_le hk
  unfold rev_turned.f
  rw [wrap_un i (by omega), reverse_ i (by omega)]
  simp only [Option.bind_some]
  have e1 : wrap64 (63 - (k : Int)) = ((63 - k : Nat) : Int) := by unfold wrap64; omega
  rw [e1, wrap_un _ (by omega), if_pos (by omega)]
  congr 1
  unfold shr
  have e : min ((63 - k : Nat) : Int).toNat IntKind.u64.bits = 63 - k := by simp [IntKind.bits]; omega
  rw [e]
  have e2 : ((Rv.rev64 i : Nat) : Int) / 2 / 2 ^ (63 - k) = ((Rv.rev64 i / 2 / 2 ^ (63 - k) : Nat) : Int) := by simp
  rw [e2, Rv.rev64_D k i (by omega)]
  have := Rv.D_lt 2 (by omega) k i
  exact wrap_i _ (by omega) (by omega)
theorem place_ (a0 a1 : Int) : rev_place.f a0 a1 = some (decide (0 ≤ a1 ∧ a1 ≤ 32 ∧ 0 ≤ a0 ∧ a0 < 2 ^ a1.toNat)) := by
  unfold rev_place.f
  by_cases h1 : a1 ≥ 0
  · by_cases h2 : a1 ≤ 32
    · obtain ⟨k, rfl⟩ := Int.eq_ofNat_of_zero_le h1
      have hk : k ≤ 32 := by omega
      rw [if_pos h1, if_pos h2, shl1 k hk, wrap_un k (by omega)]
      by_cases h3 : a0 ≥ 0
      · rw [if_pos h3, if_pos (by omega)]
        have e : ((2 : Int) ^ (k : Int).toNat) = ((2 ^ k : Nat) : Int) := by simp
        congr 1
        rw [Bool.eq_iff_iff, decide_eq_true_iff, decide_eq_true_iff, e]
        omega
      · rw [if_neg h3]; simp; omega
    · rw [if_pos h1, if_neg h2]; simp; omega
  · rw [if_neg h1]; simp; omega
theorem bits_yes (k i : Nat) (hk : k ≤ 32) (hi : i < 2 ^ k) : rev_Bits.f (i : Int) (k : Int) = some (((Rv.D 2 k i : Nat) : Int), 0) := by
  unfold rev_Bits.f
  have hp : ((i : Int) < 2 ^ (k : Int).toNat) := by
    have e : ((2 : Int) ^ (k : Int).toNat) = ((2 ^ k : Nat) : Int) := by simp
    rw [e]; omega
  rw [place_, decide_eq_true (by refine ⟨by omega, by omega, by omega, hp⟩)]
  simp only [Option.bind_some, if_true]
  rw [turned_ k i hk hi]
  rfl
/-- The loop of the digits: so many are turned, so many are left. -/
theorem pdigits_loop (b r : Nat) (hr : 1 ≤ r) (hr8 : r ≤ 8) (hb : b = 2 ^ r) (n : Nat) : ∀ (kk i j o : Nat), n < kk → (j + n) * r ≤ 32 → o < b ^ j → i < 4294967296 →
    rev_digits.l0 kk (i : Int) (((j + n) * r : Nat) : Int) (r : Int) (o : Int) ((j * r : Nat) : Int) = some ((Rv.G b n (i / 2 ^ (j * r)) o : Nat) : Int) := by
  induction n with
  | zero =>
    intro kk i j o hkk hjk ho hi
    obtain ⟨kk, rfl⟩ : ∃ m, kk = m + 1 := ⟨kk - 1, by omega⟩
    simp only [rev_digits.l0]
    rw [if_neg (by simp)]
    rfl
  | succ n ih =>
    intro kk i j o hkk hjk ho hi
    obtain ⟨kk, rfl⟩ : ∃ m, kk = m + 1 := ⟨kk - 1, by omega⟩
    have hj1 : (j + (n + 1)) * r = j * r + n * r + r := by rw [Nat.add_mul, Nat.add_mul]; omega
    have hb2 : 2 ≤ b := by rw [hb]; exact Nat.le_self_pow (by omega) 2 |> fun h => h
    have hbp : b ^ j = 2 ^ (j * r) := by rw [hb, ← Nat.pow_mul, Nat.mul_comm]
    have hbq : b ^ (j + 1) = 2 ^ (j * r + r) := by rw [hb, ← Nat.pow_mul, Nat.mul_comm, Nat.add_mul]; simp
    have hple : 2 ^ (j * r + r) ≤ 4294967296 := pow_le (by omega)
    have hpr : 2 ^ r ≤ 256 := Nat.pow_le_pow_right (n := 2) (by omega) hr8
    have hmul : 2 ^ (j * r + r) = 2 ^ (j * r) * 2 ^ r := Nat.pow_add ..
    have ho2 : o * 2 ^ r + 2 ^ r ≤ 2 ^ (j * r + r) := by
      rw [hmul, ← Nat.succ_mul]; exact Nat.mul_le_mul_right _ (by rw [← hbp]; exact ho)
    simp only [rev_digits.l0]
    rw [if_pos (by rw [hj1]; omega), wrap_un r (by omega), wrap_un (j * r) (by omega), if_pos (by omega), if_pos (by omega)]
    have hs1 : shl .i64 (o : Int) (r : Int) = ((o * 2 ^ r : Nat) : Int) := by
      unfold shl
      have e : min (r : Int).toNat IntKind.i64.bits = r := by simp [IntKind.bits]; omega
      have e2 : (o : Int) * 2 ^ r = ((o * 2 ^ r : Nat) : Int) := by simp
      rw [e, e2, IntKind.wrap_i64]; omega
    have hs2 : shr .i64 (i : Int) ((j * r : Nat) : Int) = ((i / 2 ^ (j * r) : Nat) : Int) := by
      unfold shr
      have e : min ((j * r : Nat) : Int).toNat IntKind.i64.bits = j * r := by simp [IntKind.bits]; omega
      rw [e]; simp
    have hs3 : shl .i64 1 (r : Int) = ((2 ^ r : Nat) : Int) := by rw [← wrap_un r (by omega)]; exact shl1 r (by omega)
    have hs4 : wrap64 (((2 ^ r : Nat) : Int) - 1) = ((2 ^ r - 1 : Nat) : Int) := by
      have := Nat.one_le_two_pow (n := r)
      unfold wrap64; omega
    have hid : i / 2 ^ (j * r) < 4294967296 := Nat.lt_of_le_of_lt (Nat.div_le_self _ _) hi
    rw [hs1, hs2, hs3, hs4]
    have e64 : (2 : Nat) ^ 63 = 9223372036854775808 := by decide
    have hand : Go.bits .and .i64 ((i / 2 ^ (j * r) : Nat) : Int) ((2 ^ r - 1 : Nat) : Int) = ((i / 2 ^ (j * r) % 2 ^ r : Nat) : Int) := by
      rw [bits_nat .i64 63 (by decide) (fun n h0 h1 => by rw [IntKind.wrap_i64]; omega) _ _ (by omega) (by omega) |>.1, Nat.and_two_pow_sub_one_eq_mod]
    have hmlt : i / 2 ^ (j * r) % 2 ^ r < 2 ^ r := Nat.mod_lt _ (by omega)
    have hor : Go.bits .or .i64 ((o * 2 ^ r : Nat) : Int) ((i / 2 ^ (j * r) % 2 ^ r : Nat) : Int) = ((b * o + i / 2 ^ (j * r) % b : Nat) : Int) := by
      rw [bits_nat .i64 63 (by decide) (fun n h0 h1 => by rw [IntKind.wrap_i64]; omega) _ _ (by omega) (by omega) |>.2]
      rw [nat_join r _ _ (by simp) hmlt, hb, Nat.mul_comm o]
    rw [hand, hor]
    have hstep : wrap64 (((j * r : Nat) : Int) + (r : Int)) = (((j + 1) * r : Nat) : Int) := by
      have : (j + 1) * r = j * r + r := Nat.succ_mul ..
      rw [this]; unfold wrap64; omega
    rw [hstep]
    have hnb : b * o + i / 2 ^ (j * r) % b < b ^ (j + 1) := by
      rw [hbq, hb, Nat.mul_comm]; omega
    have := ih kk i (j + 1) (b * o + i / 2 ^ (j * r) % b) (by omega) (by rw [show j + 1 + n = j + (n + 1) from by omega]; exact hjk) hnb hi
    rw [show j + 1 + n = j + (n + 1) from by omega] at this
    rw [this]
    congr 2
    rw [Rv.G]
    congr 1
    rw [Nat.succ_mul, Nat.pow_add, ← Nat.div_div_eq_div_mul, hb]
theorem awake_ : abacistlaw05_awake.f = some true := by
  unfold abacistlaw05_awake.f
  have h := bits_yes 3 1 (by omega) (by omega)
  have e : Rv.D 2 3 1 = 4 := by decide
  rw [e] at h
  have h2 : rev_Bits.f 1 3 = some (4, 0) := h
  rw [h2]
  rfl
/-- The document's first loop: the base. -/
theorem rbase_loop (r : Nat) (hr8 : r ≤ 8) (i kx : Int) (d : Nat) : ∀ (kk j : Nat), d < kk → j + d = r →
    ∃ kk', abacistref05_Digits.l0 kk i kx (r : Int) ((2 ^ j : Nat) : Int) (j : Int) = abacistref05_Digits.l1 kk' i kx (r : Int) ((2 ^ r : Nat) : Int) 0 0 ∧ kk = kk' + d + 1 := by
  induction d with
  | zero =>
    intro kk j hkk hj
    obtain ⟨kk, rfl⟩ : ∃ m, kk = m + 1 := ⟨kk - 1, by omega⟩
    obtain rfl : j = r := by omega
    refine ⟨kk, ?_, by omega⟩
    simp only [abacistref05_Digits.l0]
    rw [if_neg (by omega)]
  | succ d ih =>
    intro kk j hkk hj
    obtain ⟨kk, rfl⟩ : ∃ m, kk = m + 1 := ⟨kk - 1, by omega⟩
    obtain ⟨kk', h1, h2⟩ := ih kk (j + 1) (by omega) (by omega)
    refine ⟨kk', ?_, by omega⟩
    simp only [abacistref05_Digits.l0]
    have hp := pow_le (k := j + 1) (by omega)
    have hp2 : 2 ^ (j + 1) = 2 * 2 ^ j := by rw [Nat.pow_succ, Nat.mul_comm]
    have e1 : wrap64 (2 * ((2 ^ j : Nat) : Int)) = ((2 ^ (j + 1) : Nat) : Int) := by
      rw [hp2] at hp ⊢
      generalize 2 ^ j = p at *
      unfold wrap64; omega
    have e2 : wrap64 ((j : Int) + 1) = ((j + 1 : Nat) : Int) := by unfold wrap64; omega
    rw [if_pos (by omega), e1, e2, h1]
/-- The document's second loop. -/
theorem rdig_loop (b r m : Nat) (hr : 1 ≤ r) (hb : 1 ≤ b) (hb2 : b ≤ 256) (hm : m * r ≤ 32) (hbm : b ^ m ≤ 4294967296) (d : Nat) : ∀ (kk i j o : Nat), d < kk → j + d = m → i < 4294967296 → o < b ^ j →
    abacistref05_Digits.l1 kk (i : Int) ((m * r : Nat) : Int) (r : Int) (b : Int) (o : Int) (j : Int) = some ((Rv.G b d i o : Nat) : Int) := by
  have hm1 : m ≤ m * r := Nat.le_mul_of_pos_right _ (by omega)
  have hdiv : wrap64 (Int.tdiv ((m * r : Nat) : Int) (r : Int)) = (m : Int) := by
    rw [← Int.ofNat_tdiv, Nat.mul_div_cancel _ (by omega)]
    exact wrap_i _ (by omega) (by omega)
  generalize ((m * r : Nat) : Int) = mr at *
  induction d with
  | zero =>
    intro kk i j o hkk hj hi ho
    obtain ⟨kk, rfl⟩ : ∃ m, kk = m + 1 := ⟨kk - 1, by omega⟩
    simp only [abacistref05_Digits.l1]
    rw [if_neg (by omega), hdiv, if_neg (by omega)]
    rfl
  | succ d ih =>
    intro kk i j o hkk hj hi ho
    obtain ⟨kk, rfl⟩ : ∃ m, kk = m + 1 := ⟨kk - 1, by omega⟩
    have hple : b ^ (j + 1) ≤ 4294967296 := Nat.le_trans (Nat.pow_le_pow_right hb (by omega)) hbm
    have ho2 : b * o + i % b < b ^ (j + 1) := by
      have h1 : (o + 1) * b ≤ b ^ j * b := Nat.mul_le_mul_right _ ho
      have h2 : i % b < b := Nat.mod_lt _ hb
      rw [Nat.pow_succ, Nat.mul_comm b o]
      rw [Nat.succ_mul] at h1
      omega
    have hid : i / b ≤ i := Nat.div_le_self _ _
    have e1 : wrap64 (Int.tdiv (i : Int) (b : Int)) = ((i / b : Nat) : Int) := by
      rw [← Int.ofNat_tdiv]
      exact wrap_i _ (Int.le_trans (by omega) (Int.natCast_nonneg _)) (by have := Int.ofNat_le.2 hid; omega)
    have e2 : wrap64 ((b : Int) * (o : Int)) = ((b * o : Nat) : Int) := by
      rw [← Int.natCast_mul]
      generalize b * o = x at *
      exact wrap_i _ (by omega) (by omega)
    have e3 : Int.tmod (i : Int) (b : Int) = ((i % b : Nat) : Int) := (Int.ofNat_tmod ..).symm
    have e4 : wrap64 (((b * o : Nat) : Int) + ((i % b : Nat) : Int)) = ((b * o + i % b : Nat) : Int) := by
      rw [← Int.natCast_add]
      generalize b * o + i % b = x at *
      exact wrap_i _ (by omega) (by omega)
    have e5 : wrap64 ((j : Int) + 1) = ((j + 1 : Nat) : Int) := by unfold wrap64; omega
    simp only [abacistref05_Digits.l1]
    rw [if_neg (by omega), hdiv, if_pos (by omega), if_neg (by omega), e1, e2, e3, e4, e5]
    rw [ih kk (i / b) (j + 1) (b * o + i % b) (by omega) (by omega) (Nat.lt_of_le_of_lt hid hi) ho2]
    rfl
theorem rdigits_ (r m i : Nat) (hr : 1 ≤ r) (hr8 : r ≤ 8) (hm : m * r ≤ 32) (hi : i < 4294967296) (kk : Nat) (hkk : r + m + 3 ≤ kk) :
    abacistref05_Digits.f kk (i : Int) ((m * r : Nat) : Int) (r : Int) = some ((Rv.D (2 ^ r) m i : Nat) : Int) := by
  obtain ⟨kk', h1, h2⟩ := rbase_loop r hr8 (i : Int) ((m * r : Nat) : Int) r kk 0 (by omega) (by omega)
  unfold abacistref05_Digits.f
  have hb2 : 2 ^ r ≤ 256 := Nat.pow_le_pow_right (n := 2) (by omega) hr8
  have h3 := rdig_loop (2 ^ r) r m hr (Nat.two_pow_pos r) hb2 hm (by rw [← Nat.pow_mul, Nat.mul_comm]; exact pow_le hm) m kk' i 0 0 (by omega) (by omega) hi (by simp)
  have h1' : abacistref05_Digits.l0 kk (i : Int) ((m * r : Nat) : Int) (r : Int) 1 0 = abacistref05_Digits.l1 kk' (i : Int) ((m * r : Nat) : Int) (r : Int) ((2 ^ r : Nat) : Int) 0 0 := h1
  rw [h1']
  have h3' : abacistref05_Digits.l1 kk' (i : Int) ((m * r : Nat) : Int) (r : Int) ((2 ^ r : Nat) : Int) 0 0 = some ((Rv.G (2 ^ r) m i 0 : Nat) : Int) := h3
  rw [h3', Rv.G_eq]
  simp
theorem pdigits_ (r m i : Nat) (hr : 1 ≤ r) (hr8 : r ≤ 8) (hm : m * r ≤ 32) (hi : i < 4294967296) (kk : Nat) (hkk : m < kk) :
    rev_digits.f kk (i : Int) ((m * r : Nat) : Int) (r : Int) = some ((Rv.D (2 ^ r) m i : Nat) : Int) := by
  have h := pdigits_loop (2 ^ r) r hr hr8 rfl m kk i 0 0 hkk (by simpa using hm) (by simp) hi
  simp only [Nat.zero_add, Nat.zero_mul, Nat.pow_zero, Nat.div_one, Rv.G_eq] at h
  unfold rev_digits.f
  exact h
theorem goes_yes (r m : Nat) (hr : 1 ≤ r) (hr8 : r ≤ 8) : rev_goes.f ((m * r : Nat) : Int) (r : Int) = some true := by
  unfold rev_goes.f
  rw [if_pos (by omega), if_pos (by omega), if_neg (by omega), ← Int.ofNat_tmod, Nat.mul_mod_left]
  rfl
theorem goes_no (a1 a2 : Int) (h : ¬ (1 ≤ a2 ∧ a2 ≤ 8 ∧ Int.tmod a1 a2 = 0)) : rev_goes.f a1 a2 = some false := by
  unfold rev_goes.f
  by_cases h1 : a2 ≥ 1
  · by_cases h2 : a2 ≤ 8
    · rw [if_pos h1, if_pos h2, if_neg (by omega)]
      have : ¬ Int.tmod a1 a2 = 0 := fun h3 => h ⟨h1, h2, h3⟩
      simp [this]
    · rw [if_pos h1, if_neg h2]
  · rw [if_neg h1]
end Go.Proofs.YthppiphldaopnaaDoor.Pure
