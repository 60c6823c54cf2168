import Derived.Laws.BitsAllLaws
import Derived.OpenShut
import Derived.Test.YtmmgiolhfekplaaPWidex2
import Derived.Test.YtmmgiolhfekplaaPWidex8
import Derived.Test.YtmmgiolhfekplaaWNEv
import Derived.Test.YtmmgiolhfekplaaWideC
set_option linter.unusedVariables false
set_option linter.unusedSimpArgs false
namespace Go.Proofs.Ytmmgiolhfekplaa.Pure
open Go.RowKit Go.Proofs.Ytmmgiolhfekplaa Go.Proofs.Ytmmgiolhfekplaa.PWide Go.Proofs.Ytmmgiolhfekplaa.Ext Go.Proofs.YtmmgiolhfekplaaW.PrintWords Go.Proofs.YtmmgiolhfekplaaW.PrintLast Go.Proofs.YtmmgiolhfekplaaW.PrintMore

theorem shr_add_ge (v s i n x : Nat) (h : n ≤ i) (hs : s = v % 2 ^ i) (hx : v / 2 ^ i % 2 = x) : v % 2 ^ (i + 1) / 2 ^ n = s / 2 ^ n + x * 2 ^ (i - n) := by
  rw [mod_succ, hx, ← hs, pow_split h, ← Nat.mul_assoc, Nat.mul_right_comm, Nat.add_mul_div_right _ _ (Nat.two_pow_pos n)]
theorem shr_small (v i n : Nat) (h : i ≤ n) : v % 2 ^ i / 2 ^ n = 0 := Nat.div_eq_of_lt (Nat.lt_of_lt_of_le (Nat.mod_lt _ (Nat.two_pow_pos i)) (pow_mono h))
theorem shr_room (v i n : Nat) (h : n ≤ i) : v % 2 ^ i / 2 ^ n < 2 ^ (i - n) := Nat.div_lt_of_lt_mul (by rw [← pow_split h]; exact Nat.mod_lt _ (Nat.two_pow_pos i))
theorem rshr_go (v i n x s : Nat) (hx : x < 2) (hi : i < 128) (hn : n < 9223372036854775808) (h : n ≤ i) (hv : abacistref01_bit.f (hiw v) (low v) (i : Int) = some (x : Int))
    (hs : abacistref01_set.f (hiw s) (low s) ((i - n : Nat) : Int) = some (hiw (s + 2 ^ (i - n)), low (s + 2 ^ (i - n)))) (k : Nat) :
    abacistref01_Shr.l0 (k + 1) (n : Int) (i : Int) (hiw v) (low v) (hiw s) (low s) = abacistref01_Shr.l0 k (n : Int) ((i + 1 : Nat) : Int) (hiw v) (low v) (hiw (s + x * 2 ^ (i - n))) (low (s + x * 2 ^ (i - n))) := by
  have e2 : wrap64 ((i : Int) - (n : Int)) = ((i - n : Nat) : Int) := by unfold wrap64; omega
  have e4 : wrap64 ((i : Int) + 1) = ((i + 1 : Nat) : Int) := by unfold wrap64; omega
  simp only [abacistref01_Shr.l0]
  rw [if_pos (by omega), if_pos (by omega), hv, e2, e4]
  simp only [Option.bind_some]
  rcases (show x = 0 ∨ x = 1 by omega) with h | h
  · subst h; rw [if_neg (by omega)]; simp only [Nat.zero_mul, Nat.add_zero]
  · subst h; rw [if_pos (by omega), hs]; simp only [Option.bind_some, Nat.one_mul]
theorem rshr_skip (v i n s : Nat) (hi : i < 128) (h : i < n) (k : Nat) :
    abacistref01_Shr.l0 (k + 1) (n : Int) (i : Int) (hiw v) (low v) (hiw s) (low s) = abacistref01_Shr.l0 k (n : Int) ((i + 1 : Nat) : Int) (hiw v) (low v) (hiw s) (low s) := by
  have e4 : wrap64 ((i : Int) + 1) = ((i + 1 : Nat) : Int) := by unfold wrap64; omega
  simp only [abacistref01_Shr.l0]
  rw [if_pos (by omega), if_neg (by omega), e4]
theorem rshr_loop (v n : Nat) (hv : v < 340282366920938463463374607431768211456) (hn : n < 9223372036854775808) (d : Nat) : ∀ (i : Nat), i + d = 128 →
    Ev (fun k => abacistref01_Shr.l0 k (n : Int) (i : Int) (hiw v) (low v) (hiw (v % 2 ^ i / 2 ^ n)) (low (v % 2 ^ i / 2 ^ n))) (hiw (v / 2 ^ n), low (v / 2 ^ n)) := by
  induction d with
  | zero =>
    intro i hi
    obtain rfl : i = 128 := hi
    have e : v % 2 ^ 128 = v := by rw [e128]; exact Nat.mod_eq_of_lt hv
    rw [e]
    refine Ev.step (f := fun _ => some (hiw (v / 2 ^ n), low (v / 2 ^ n))) (fun k => ?_) (Ev.now _)
    clear e
    simp only [abacistref01_Shr.l0]
    rw [if_neg (by omega)]
  | succ d ih =>
    intro i hi
    have hi128 : i < 128 := by omega
    have hi1 : i + 1 + d = 128 := by omega
    have ihx := ih (i + 1) hi1
    rcases Nat.lt_or_ge i n with h | h
    · rw [shr_small v (i + 1) n h] at ihx
      rw [shr_small v i n (Nat.le_of_lt h)]
      exact Ev.step (fun k => rshr_skip v i n 0 hi128 h k) ihx
    · rw [shr_add_ge v _ i n _ h rfl rfl] at ihx
      have hr := shr_room v i n h
      have h2 : v % 2 ^ i / 2 ^ n < 340282366920938463463374607431768211456 := Nat.lt_of_le_of_lt (Nat.div_le_self _ _) (Nat.lt_of_le_of_lt (Nat.mod_le _ _) hv)
      exact Ev.step (fun k => rshr_go v i n _ _ (bit_lt v i) hi128 hn h (bit_ v i hi128) (set_ _ (i - n) h2 (Nat.lt_of_le_of_lt (Nat.sub_le _ _) hi128) (bit_zero hr)) k) ihx
theorem rshr_ (v : Nat) (n : Int) (hv : v < 340282366920938463463374607431768211456) (hn : n ≤ 9223372036854775807) : Ev (fun k => abacistref01_Shr.f k (hiw v) (low v) n) (hiw (v / 2 ^ n.toNat), low (v / 2 ^ n.toNat)) := by
  have e0 : ∀ m : Nat, v % 2 ^ 0 / 2 ^ m = 0 := fun m => by rw [Nat.pow_zero, Nat.mod_one, Nat.zero_div]
  by_cases h : n < 0
  · have e : n.toNat = 0 := by omega
    have h1 := rshr_loop v 0 hv (by omega) 128 0 rfl
    rw [e0] at h1
    rw [e]
    refine Ev.congr (f := fun k => abacistref01_Shr.j0 k 0 (hiw v) (low v) 0 0) (fun k => ?_) (Ev.step (f := fun k => abacistref01_Shr.l0 k 0 0 (hiw v) (low v) 0 0) (fun k => rfl) h1)
    unfold abacistref01_Shr.f; rw [if_pos h]
  · obtain ⟨m, rfl⟩ := Int.eq_ofNat_of_zero_le (show 0 ≤ n by omega)
    have h1 := rshr_loop v m hv (by omega) 128 0 rfl
    rw [e0] at h1
    refine Ev.congr (f := fun k => abacistref01_Shr.j0 k (m : Int) (hiw v) (low v) 0 0) (fun k => ?_) (Ev.step (f := fun k => abacistref01_Shr.l0 k (m : Int) 0 (hiw v) (low v) 0 0) (fun k => rfl) h1)
    unfold abacistref01_Shr.f; rw [if_neg (by omega)]

/-! ### how many bits -/
def IsLen (v n : Nat) : Prop := v < 2 ^ n ∧ (0 < n → 2 ^ (n - 1) ≤ v)
theorem IsLen.uniq {v n m : Nat} (h : IsLen v n) (k : IsLen v m) : n = m := by
  rcases Nat.lt_trichotomy n m with c | c | c
  · have := k.2 (by omega)
    have h2 := pow_mono (show n ≤ m - 1 by omega)
    exact absurd h.1 (Nat.not_lt.mpr (Nat.le_trans h2 this))
  · exact c
  · have := h.2 (by omega)
    have h2 := pow_mono (show m ≤ n - 1 by omega)
    exact absurd k.1 (Nat.not_lt.mpr (Nat.le_trans h2 this))
theorem isLen_aux : ∀ (f x : Nat), x < 2 ^ f → IsLen x (Lib.bitLenAux f x)
  | 0, x, h => ⟨h, fun h => absurd h (by simp [Lib.bitLenAux])⟩
  | f + 1, x, h => by
    unfold Lib.bitLenAux
    by_cases hx : x = 0
    · subst hx; rw [if_pos rfl]; exact ⟨by simp, fun h => absurd h (by omega)⟩
    · rw [if_neg hx]
      obtain ⟨h1, h2⟩ := isLen_aux f (x / 2) (by rw [Nat.pow_succ] at h; omega)
      refine ⟨?_, fun _ => ?_⟩
      · rw [Nat.add_comm, Nat.pow_succ]; omega
      · rw [Nat.add_sub_cancel_left]
        rcases Nat.eq_zero_or_pos (Lib.bitLenAux f (x / 2)) with c | c
        · rw [c]; simp; omega
        · have := h2 c
          have e : 2 ^ (Lib.bitLenAux f (x / 2)) = 2 * 2 ^ (Lib.bitLenAux f (x / 2) - 1) := by rw [← Nat.pow_succ']; congr 1; omega
          rw [e]; omega
theorem isLen_bitLen (x : Nat) (h : x < 18446744073709551616) : IsLen x (Lib.bitLen x) := isLen_aux 64 x (by rw [e64]; exact h)
theorem IsLen.le {x n m : Nat} (h : IsLen x n) (hx : x < 2 ^ m) : n ≤ m := by
  apply Nat.le_of_not_lt
  intro c
  have h1 := h.2 (by omega)
  have h2 := pow_mono (show m ≤ n - 1 by omega)
  exact absurd hx (Nat.not_lt.mpr (Nat.le_trans h2 h1))
theorem len64_ (x : Nat) (h : x < 18446744073709551616) : bits_Len64.f (x : Int) = some ((Lib.bitLen x : Nat) : Int) := by
  unfold bits_Len64.f; rw [if_pos (by omega)]; rfl
theorem wlen_ (v : Nat) (hv : v < 340282366920938463463374607431768211456) : ∃ n : Nat, IsLen v n ∧ n ≤ 128 ∧ wide_Len.f (hiw v) (low v) = some (n : Int) := by
  unfold wide_Len.f hiw low
  have hh : v / 18446744073709551616 < 18446744073709551616 := by omega
  by_cases h : v / 18446744073709551616 > 0
  · rw [if_pos (by omega), len64_ _ hh]
    have hl := isLen_bitLen _ hh
    have hle := hl.le (m := 64) (by rw [e64]; exact hh)
    refine ⟨64 + Lib.bitLen (v / 18446744073709551616), ⟨?_, fun _ => ?_⟩, by omega, ?_⟩
    · rw [Nat.pow_add, e64]
      have := hl.1
      generalize 2 ^ Lib.bitLen (v / 18446744073709551616) = p at *
      clear hl
      omega
    · have h0 : 0 < Lib.bitLen (v / 18446744073709551616) := by
        rcases Nat.eq_zero_or_pos (Lib.bitLen (v / 18446744073709551616)) with c | c
        · have := hl.1; rw [c] at this; simp at this; omega
        · exact c
      have := hl.2 h0
      rw [show 64 + Lib.bitLen (v / 18446744073709551616) - 1 = 64 + (Lib.bitLen (v / 18446744073709551616) - 1) by omega, Nat.pow_add, e64]
      generalize 2 ^ (Lib.bitLen (v / 18446744073709551616) - 1) = p at *
      clear hl
      omega
    · simp only [Option.bind_some]
      rw [wrap_i _ (by omega) (by omega)]
      congr 1
  · rw [if_neg (by omega), len64_ _ (Nat.mod_lt _ (by omega))]
    have e : v % 18446744073709551616 = v := Nat.mod_eq_of_lt (by omega)
    rw [e]
    have hl := isLen_bitLen v (by omega)
    exact ⟨_, hl, Nat.le_trans (hl.le (m := 64) (by rw [e64]; omega)) (by omega), rfl⟩
theorem IsLen.step {v i x n : Nat} (hx : v / 2 ^ i % 2 = x) (hx2 : x < 2) (h : IsLen (v % 2 ^ i) n) : IsLen (v % 2 ^ (i + 1)) (if x = 1 then i + 1 else n) := by
  rw [mod_succ, hx]
  have h1 := Nat.mod_lt v (Nat.two_pow_pos i)
  rcases (show x = 0 ∨ x = 1 by omega) with c | c
  · subst c; simpa using h
  · subst c
    simp only [if_true, Nat.one_mul]
    exact ⟨by rw [Nat.pow_succ]; omega, fun _ => by rw [Nat.add_sub_cancel]; omega⟩
theorem rlen_go (v i n x : Nat) (hx : x < 2) (hi : i < 128) (hv : abacistref01_bit.f (hiw v) (low v) (i : Int) = some (x : Int)) (k : Nat) :
    abacistref01_Len.l0 (k + 1) (n : Int) (i : Int) (hiw v) (low v) = abacistref01_Len.l0 k ((if x = 1 then i + 1 else n : Nat) : Int) ((i + 1 : Nat) : Int) (hiw v) (low v) := by
  have e4 : wrap64 ((i : Int) + 1) = ((i + 1 : Nat) : Int) := by unfold wrap64; omega
  simp only [abacistref01_Len.l0]
  rw [if_pos (by omega), hv, e4]
  simp only [Option.bind_some]
  rcases (show x = 0 ∨ x = 1 by omega) with h | h
  · subst h; rw [if_neg (by omega), if_neg (by omega)]
  · subst h; rw [if_pos (by omega), if_pos rfl]
theorem rlen_loop (v : Nat) (hv : v < 340282366920938463463374607431768211456) (d : Nat) : ∀ (i n : Nat), i + d = 128 → IsLen (v % 2 ^ i) n →
    ∃ m : Nat, IsLen v m ∧ Ev (fun k => abacistref01_Len.l0 k (n : Int) (i : Int) (hiw v) (low v)) (m : Int) := by
  induction d with
  | zero =>
    intro i n hi h
    obtain rfl : i = 128 := hi
    have e : v % 2 ^ 128 = v := by rw [e128]; exact Nat.mod_eq_of_lt hv
    rw [e] at h
    refine ⟨n, h, Ev.step (f := fun _ => some (n : Int)) (fun k => ?_) (Ev.now _)⟩
    clear h e
    simp only [abacistref01_Len.l0]
    rw [if_neg (by omega)]
  | succ d ih =>
    intro i n hi h
    have hi128 : i < 128 := by omega
    obtain ⟨m, h1, h2⟩ := ih (i + 1) _ (by omega) (h.step rfl (bit_lt v i))
    exact ⟨m, h1, Ev.step (rlen_go v i n _ (bit_lt v i) hi128 (bit_ v i hi128)) h2⟩
theorem rlen_ (v : Nat) (hv : v < 340282366920938463463374607431768211456) : ∃ m : Nat, IsLen v m ∧ Ev (fun k => abacistref01_Len.f k (hiw v) (low v)) (m : Int) :=
  rlen_loop v hv 128 0 0 rfl (by rw [Nat.pow_zero, Nat.mod_one]; exact ⟨by simp, fun h => absurd h (by omega)⟩)
end Go.Proofs.Ytmmgiolhfekplaa.Pure
