import Derived.Laws.BitsAllLaws
import Derived.OpenShut
import Derived.Test.YtmmgiolhfekplaaPWidex2
import Derived.Test.YtmmgiolhfekplaaWNEv
import Derived.Test.YtmmgiolhfekplaaWideG
import Derived.Test.YtmmgiolhfekplaaWideD
import Derived.Test.YtmmgiolhfekplaaExt
--NEEDS
set_option linter.unusedVariables false
set_option linter.unusedSimpArgs false
namespace Go.Proofs.Ytmmgiolhfekplaa.Pure
open Go.RowKit Go.Proofs.Ytmmgiolhfekplaa Go.Proofs.Ytmmgiolhfekplaa.PDiv64 Go.Proofs.Ytmmgiolhfekplaa.Ext Go.Proofs.YtmmgiolhfekplaaW.PrintWords Go.Proofs.YtmmgiolhfekplaaW.PrintLast Go.Proofs.YtmmgiolhfekplaaW.PrintMore

theorem lead_ (y : Nat) (hy : 0 < y) (hyM : y < 18446744073709551616) : ∃ s : Nat, s ≤ 63 ∧ bits_LeadingZeros64.f (y : Int) = some (s : Int) ∧ 9223372036854775808 ≤ y * 2 ^ s ∧ y * 2 ^ s < 18446744073709551616 := by
  have hl := isLen_bitLen y hyM
  have hle := hl.le (m := 64) (by rw [e64]; exact hyM)
  have h0 : 0 < Lib.bitLen y := by
    rcases Nat.eq_zero_or_pos (Lib.bitLen y) with c | c
    · have := hl.1; rw [c] at this; simp at this; omega
    · exact c
  have h1 := hl.1
  have h2 := hl.2 h0
  refine ⟨64 - Lib.bitLen y, by omega, ?_, ?_, ?_⟩
  · unfold bits_LeadingZeros64.f
    rw [len64_ y hyM]
    simp only [Option.bind_some]
    rw [wrap_i _ (by omega) (by omega)]
    congr 1
    omega
  · have e : (9223372036854775808 : Nat) = 2 ^ (Lib.bitLen y - 1) * 2 ^ (64 - Lib.bitLen y) := by
      rw [← Nat.pow_add, show Lib.bitLen y - 1 + (64 - Lib.bitLen y) = 63 by omega]
    rw [e]; exact Nat.mul_le_mul_right _ h2
  · have e : (18446744073709551616 : Nat) = 2 ^ Lib.bitLen y * 2 ^ (64 - Lib.bitLen y) := by rw [← pow_split hle, e64]
    rw [e]; exact Nat.mul_lt_mul_of_pos_right h1 (Nat.two_pow_pos _)
theorem and_low (x : Nat) (h : x < 18446744073709551616) : Go.bits .and .u64 (x : Int) 4294967295 = ((x % 4294967296 : Nat) : Int) := by
  have e : (4294967295 : Int) = ((4294967295 : Nat) : Int) := rfl
  rw [e, u64_and_nat x _ h (by omega)]
  congr 1
  have := Nat.and_two_pow_sub_one_eq_mod x 32
  have e2 : (2 : Nat) ^ 32 = 4294967296 := by decide
  rw [e2] at this
  exact this
theorem guess_first {u y1 y0 : Nat} (hy1 : 2147483648 ≤ y1) (hy0 : y0 < 4294967296) (hu : u < y1 * 4294967296 + y0) : u / y1 ≤ 4294967296 + 1 := by
  have : u / y1 < 4294967296 + 2 := by
    apply Nat.div_lt_of_lt_mul
    rw [Nat.mul_add]
    omega
  omega
theorem guess_ge {u u1 y1 y0 : Nat} (hy1 : 0 < y1) (hu1 : u1 < 4294967296) : (u * 4294967296 + u1) / (y1 * 4294967296 + y0) ≤ u / y1 := by
  rw [Nat.le_div_iff_mul_le hy1]
  have h1 := Nat.div_mul_le_self (u * 4294967296 + u1) (y1 * 4294967296 + y0)
  generalize (u * 4294967296 + u1) / (y1 * 4294967296 + y0) = q at *
  have h2 : q * (y1 * 4294967296 + y0) = q * y1 * 4294967296 + q * y0 := by rw [Nat.mul_add, Nat.mul_assoc]
  rw [h2] at h1
  generalize q * y1 = a at *
  generalize q * y0 = b at *
  omega
theorem div_rest (u y1 : Nat) (hy1 : 0 < y1) (hu : u < 18446744073709551616) : IntKind.u64.wrap ((u : Int) - IntKind.u64.wrap (IntKind.u64.wrap (Int.tdiv (u : Int) (y1 : Int)) * (y1 : Int))) = ((u % y1 : Nat) : Int) ∧ IntKind.u64.wrap (Int.tdiv (u : Int) (y1 : Int)) = ((u / y1 : Nat) : Int) := by
  have h1 : Int.tdiv (u : Int) (y1 : Int) = ((u / y1 : Nat) : Int) := rfl
  have h2 : u / y1 ≤ u := Nat.div_le_self _ _
  have h3 := Nat.div_add_mod u y1
  have h4 : y1 * (u / y1) ≤ u := Nat.mul_div_le u y1
  have e1 : IntKind.u64.wrap (Int.tdiv (u : Int) (y1 : Int)) = ((u / y1 : Nat) : Int) := by
    rw [h1]; exact wrap_u _ (Int.natCast_nonneg _) (by omega)
  refine ⟨?_, e1⟩
  rw [e1, ← Int.natCast_mul, Nat.mul_comm]
  generalize y1 * (u / y1) = p at *
  generalize u % y1 = r at *
  rw [wrap_u (p : Int) (by omega) (by omega), wrap_u _ (by omega) (by omega)]
  omega
theorem fin_eq (U W R p : Nat) (h : p + R = U * 4294967296 + W / 4294967296) : U * 18446744073709551616 + W = p * 4294967296 + (R * 4294967296 + W % 4294967296) := by omega
/-- math/bits.Div64, where it doesn't panic. -/
theorem div64_ (h l y : Nat) (hl : l < 18446744073709551616) (hy : y < 18446744073709551616) (hh : h < y) : Ev (fun k => bits_Div64.f k (h : Int) (l : Int) (y : Int)) ((((h * 18446744073709551616 + l) / y : Nat) : Int), (((h * 18446744073709551616 + l) % y : Nat) : Int)) := by
  by_cases h0 : h = 0
  · subst h0
    rw [Nat.zero_mul, Nat.zero_add]
    refine Ev.congr (f := fun _ => some (((l / y : Nat) : Int), ((l % y : Nat) : Int))) (fun k => ?_) (Ev.now _)
    unfold bits_Div64.f
    have h2 : l / y ≤ l := Nat.div_le_self _ _
    rw [if_neg (by omega), if_neg (by omega), if_pos (by rfl)]
    have e : Int.tdiv (l : Int) (y : Int) = ((l / y : Nat) : Int) := rfl
    rw [e, wrap_u _ (Int.natCast_nonneg _) (by omega)]
    rfl
  · obtain ⟨s, hs, hlz, hlo, hhi⟩ := lead_ y (by omega) hy
    have hp : 0 < 2 ^ s := Nat.two_pow_pos s
    have hpq : 2 ^ s * 2 ^ (64 - s) = 18446744073709551616 := by rw [← pow_split (by omega), e64]
    -- the shifted divisor and its two digits
    have hY : y * 2 ^ s % 18446744073709551616 = y * 2 ^ s := Nat.mod_eq_of_lt hhi
    generalize hYd : y * 2 ^ s = Y at *
    -- the shifted dividend
    obtain ⟨f1, f2, f3, f4⟩ := shl_parts h l (2 ^ s) (2 ^ (64 - s)) hl hpq (Nat.two_pow_pos _)
    have hhs : h * 2 ^ s < 18446744073709551616 := Nat.lt_of_le_of_lt (Nat.mul_le_mul_right _ (Nat.le_of_lt hh)) (by rw [hYd]; exact hhi)
    rw [Nat.mod_eq_of_lt hhs] at f1 f3
    have hV : (h * 18446744073709551616 + l) * 2 ^ s = (h * 2 ^ s + l / 2 ^ (64 - s)) * 18446744073709551616 + l * 2 ^ s % 18446744073709551616 := by
      have hlt : (h * 18446744073709551616 + l) * 2 ^ s < 340282366920938463463374607431768211456 := by
        have h1 : (h * 18446744073709551616 + l) * 2 ^ s < (y * 18446744073709551616) * 2 ^ s := Nat.mul_lt_mul_of_pos_right (by omega) hp
        have h2 : y * 18446744073709551616 * 2 ^ s = Y * 18446744073709551616 := by rw [Nat.mul_right_comm, hYd]
        omega
      rw [Nat.mod_eq_of_lt hlt] at f1 f2
      have := Nat.div_add_mod ((h * 18446744073709551616 + l) * 2 ^ s) 18446744073709551616
      rw [f1, f2] at this
      rw [← this, Nat.mul_comm]
    have hU : h * 2 ^ s + l / 2 ^ (64 - s) < Y := by
      have h1 : (h * 18446744073709551616 + l) * 2 ^ s < (y * 18446744073709551616) * 2 ^ s := Nat.mul_lt_mul_of_pos_right (by omega) hp
      have h2 : y * 18446744073709551616 * 2 ^ s = Y * 18446744073709551616 := by rw [Nat.mul_right_comm, hYd]
      rw [h2, hV] at h1
      clear f1 f2 hV hlz hY hYd hpq h2
      omega
    have hor : Go.bits .or .u64 (shl .u64 (h : Int) (s : Int)) (shr .u64 (l : Int) ((64 - s : Nat) : Int)) = ((h * 2 ^ s + l / 2 ^ (64 - s) : Nat) : Int) := by
      rw [shl_u _ _ (by omega), shr_u _ _ (by omega), or_join s _ _ (Nat.mod_lt _ (by omega)) f4 (Nat.lt_of_le_of_lt (Nat.le_add_left _ _) f3) (mul_mod_low _ _ (by omega)), Nat.mod_eq_of_lt hhs]
    have hU2 : h * 2 ^ s + l / 2 ^ (64 - s) < 18446744073709551616 := Nat.lt_trans hU hhi
    have hW : l * 2 ^ s % 18446744073709551616 < 18446744073709551616 := Nat.mod_lt _ (by omega)
    generalize hUd : h * 2 ^ s + l / 2 ^ (64 - s) = U at *
    generalize hWd : l * 2 ^ s % 18446744073709551616 = W at *
    have es1 : IntKind.u64.wrap (s : Int) = (s : Int) := wrap_u _ (by omega) (by omega)
    have es2 : IntKind.u64.wrap (64 - (s : Int)) = ((64 - s : Nat) : Int) := by rw [wrap_u _ (by omega) (by omega)]; omega
    have eY : shl .u64 (y : Int) (s : Int) = (Y : Int) := by rw [shl_u _ _ (by omega), hYd, hY]
    have eW : shl .u64 (l : Int) (s : Int) = (W : Int) := by rw [shl_u _ _ (by omega), hWd]
    have eY1 : (Y : Int) / 4294967296 = ((Y / 4294967296 : Nat) : Int) := by omega
    have eW1 : (W : Int) / 4294967296 = ((W / 4294967296 : Nat) : Int) := by omega
    have y1lo : 2147483648 ≤ Y / 4294967296 := by omega
    have y1hi : Y / 4294967296 < 4294967296 := by omega
    have y0hi : Y % 4294967296 < 4294967296 := Nat.mod_lt _ (by omega)
    have eYd : Y / 4294967296 * 4294967296 + Y % 4294967296 = Y := by omega
    obtain ⟨r1, r2⟩ := div_rest U (Y / 4294967296) (by omega) hU2
    refine Ev.congr (f := fun k => bits_Div64.l0 k (Y : Int) (s : Int) ((Y / 4294967296 : Nat) : Int) ((Y % 4294967296 : Nat) : Int) (U : Int) ((W / 4294967296 : Nat) : Int) ((W % 4294967296 : Nat) : Int) ((U / (Y / 4294967296) : Nat) : Int) ((U % (Y / 4294967296) : Nat) : Int)) (fun k => ?_) ?_
    · unfold bits_Div64.f
      rw [if_neg (by omega), if_neg (by omega), if_neg (by omega), hlz]
      simp only [Option.bind_some]
      rw [es1, es2, if_pos (by omega), if_pos (by omega), eY, eW, hor, eY1, eW1, if_neg (by omega), and_low Y hhi, and_low W hW, r1, r2]
    · have w1 : W / 4294967296 < 4294967296 := by omega
      have w0 : W % 4294967296 < 4294967296 := Nat.mod_lt _ (by omega)
      have hU' : U < Y / 4294967296 * 4294967296 + Y % 4294967296 := by rw [eYd]; exact hU
      have rlt : U % (Y / 4294967296) < 4294967296 := Nat.lt_trans (Nat.mod_lt _ (by omega)) y1hi
      have rsum : U / (Y / 4294967296) * (Y / 4294967296) + U % (Y / 4294967296) = U := by rw [Nat.mul_comm]; exact Nat.div_add_mod _ _
      refine first_loop (Y / 4294967296) (Y % 4294967296) U (W / 4294967296) _ _ _ (by omega) y1hi y0hi hU' w1 ?_ (U / (Y / 4294967296)) (U % (Y / 4294967296)) rsum rlt (guess_ge (by omega) w1) (guess_first y1lo y0hi hU')
      rw [eYd]
      -- the second digit
      have hQ : (U * 4294967296 + W / 4294967296) / Y < 4294967296 := by have := guess_small hU' w1; rw [eYd] at this; exact this
      have hdm := Nat.div_add_mod (U * 4294967296 + W / 4294967296) Y
      have hRlt := Nat.mod_lt (U * 4294967296 + W / 4294967296) (show 0 < Y by omega)
      obtain ⟨Q, hQd⟩ : ∃ Q, Q = (U * 4294967296 + W / 4294967296) / Y := ⟨_, rfl⟩
      obtain ⟨R, hRd⟩ : ∃ R, R = (U * 4294967296 + W / 4294967296) % Y := ⟨_, rfl⟩
      rw [← hQd] at hQ hdm ⊢
      rw [← hRd] at hRlt hdm
      have eR : IntKind.u64.wrap (IntKind.u64.wrap (IntKind.u64.wrap ((U : Int) * 4294967296) + ((W / 4294967296 : Nat) : Int)) - IntKind.u64.wrap ((Q : Int) * (Y : Int))) = (R : Int) := by
        rw [← Int.natCast_mul, Nat.mul_comm Q]
        generalize Y * Q = p at *
        rw [IntKind.wrap_u64, IntKind.wrap_u64, IntKind.wrap_u64, IntKind.wrap_u64]
        clear r1 r2 hor f1 f2 f3 f4 hV rsum rlt hpq hYd hUd hWd eY eW
        omega
      obtain ⟨t1, t2⟩ := div_rest R (Y / 4294967296) (by omega) (by omega)
      have hR' : R < Y / 4294967296 * 4294967296 + Y % 4294967296 := by rw [eYd]; exact hRlt
      have rlt2 : R % (Y / 4294967296) < 4294967296 := Nat.lt_trans (Nat.mod_lt _ (by omega)) y1hi
      have rsum2 : R / (Y / 4294967296) * (Y / 4294967296) + R % (Y / 4294967296) = R := by rw [Nat.mul_comm]; exact Nat.div_add_mod _ _
      have h2 := second_loop (Y / 4294967296) (Y % 4294967296) R (W % 4294967296) Q s (by omega) y1hi y0hi hR' w0 hQ (by omega) (R / (Y / 4294967296)) (R % (Y / 4294967296)) rsum2 rlt2 (guess_ge (by omega) w0) (guess_first y1lo y0hi hR')
      rw [eYd] at h2
      have hfin : (h * 18446744073709551616 + l) / y = Q * 4294967296 + (R * 4294967296 + W % 4294967296) / Y ∧ (h * 18446744073709551616 + l) % y = (R * 4294967296 + W % 4294967296) % Y / 2 ^ s := by
        have g1 : (h * 18446744073709551616 + l) * 2 ^ s = Y * (Q * 4294967296) + (R * 4294967296 + W % 4294967296) := by
          rw [hV, ← Nat.mul_assoc]
          exact fin_eq _ _ _ _ hdm
        have g2 : (h * 18446744073709551616 + l) / y = (h * 18446744073709551616 + l) * 2 ^ s / Y := by rw [← hYd, Nat.mul_div_mul_right _ _ hp]
        have g3 : (h * 18446744073709551616 + l) % y = (h * 18446744073709551616 + l) * 2 ^ s % Y / 2 ^ s := by rw [← hYd, Nat.mul_mod_mul_right, Nat.mul_div_cancel _ hp]
        rw [g2, g3, g1, Nat.mul_add_mod, Nat.mul_add_div (by omega)]
        exact ⟨rfl, rfl⟩
      rw [hfin.1, hfin.2]
      refine Ev.step (fun k => ?_) h2
      simp only [bits_Div64.j2]
      rw [if_neg (by omega), eR, t1, t2]
theorem wide_two (x y : Nat) (h : y < 18446744073709551616) : (x * 18446744073709551616 + y) / 18446744073709551616 = x ∧ (x * 18446744073709551616 + y) % 18446744073709551616 = y := by omega
theorem wrem_ (a m : Nat) (ha : a < 340282366920938463463374607431768211456) (hm0 : 0 < m) (hm : m < 18446744073709551616) : Ev (fun k => wide_Rem.f k (hiw a) (low a) (m : Int)) (hiw (a / m), low (a / m), ((a % m : Nat) : Int), 0) := by
  have hh : a / 18446744073709551616 < 18446744073709551616 := by omega
  have hr := Nat.mod_lt (a / 18446744073709551616) hm0
  have s1 := div64_ 0 (a / 18446744073709551616) m hh hm hm0
  rw [Nat.zero_mul, Nat.zero_add] at s1
  have s2 := div64_ (a / 18446744073709551616 % m) (a % 18446744073709551616) m (Nat.mod_lt _ (by omega)) hm hr
  have hA := Nat.div_add_mod a 18446744073709551616
  have hB := Nat.div_add_mod (a / 18446744073709551616) m
  have e1 : a = m * (a / 18446744073709551616 / m * 18446744073709551616) + (a / 18446744073709551616 % m * 18446744073709551616 + a % 18446744073709551616) := by
    rw [← Nat.mul_assoc]
    generalize m * (a / 18446744073709551616 / m) = p at *
    generalize a / 18446744073709551616 % m = r at *
    omega
  have e2 : a / m = a / 18446744073709551616 / m * 18446744073709551616 + (a / 18446744073709551616 % m * 18446744073709551616 + a % 18446744073709551616) / m := by
    have : (m * (a / 18446744073709551616 / m * 18446744073709551616) + (a / 18446744073709551616 % m * 18446744073709551616 + a % 18446744073709551616)) / m = a / 18446744073709551616 / m * 18446744073709551616 + (a / 18446744073709551616 % m * 18446744073709551616 + a % 18446744073709551616) / m := Nat.mul_add_div hm0 _ _
    rw [← e1] at this; exact this
  have e3 : a % m = (a / 18446744073709551616 % m * 18446744073709551616 + a % 18446744073709551616) % m := by
    have : (m * (a / 18446744073709551616 / m * 18446744073709551616) + (a / 18446744073709551616 % m * 18446744073709551616 + a % 18446744073709551616)) % m = (a / 18446744073709551616 % m * 18446744073709551616 + a % 18446744073709551616) % m := Nat.mul_add_mod _ _ _
    rw [← e1] at this; exact this
  have e4 : (a / 18446744073709551616 % m * 18446744073709551616 + a % 18446744073709551616) / m < 18446744073709551616 := by
    apply Nat.div_lt_of_lt_mul
    have : (a / 18446744073709551616 % m + 1) * 18446744073709551616 ≤ m * 18446744073709551616 := Nat.mul_le_mul_right _ hr
    omega
  have e5 : hiw (a / m) = ((a / 18446744073709551616 / m : Nat) : Int) := by
    unfold hiw; rw [e2, (wide_two _ _ e4).1]
  have e6 : low (a / m) = (((a / 18446744073709551616 % m * 18446744073709551616 + a % 18446744073709551616) / m : Nat) : Int) := by
    unfold low; rw [e2, (wide_two _ _ e4).2]
  rw [e3, e5, e6]
  refine Ev.congr (f := fun k => (bits_Div64.f k 0 (hiw a) (m : Int)).bind fun t => (bits_Div64.f k t.2 (low a) (m : Int)).bind fun u => some (t.1, u.1, u.2, 0)) (fun k => ?_) ?_
  · unfold wide_Rem.f; rw [if_neg (by omega)]
  · exact Ev.bind s1 (Ev.bind s2 (Ev.now _))
end Go.Proofs.Ytmmgiolhfekplaa.Pure
