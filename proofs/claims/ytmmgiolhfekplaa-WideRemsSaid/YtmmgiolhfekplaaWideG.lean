import Derived.Laws.BitsAllLaws
import Derived.OpenShut
import Derived.Test.YtmmgiolhfekplaaWNEv
import Derived.Test.YtmmgiolhfekplaaWideE
set_option linter.unusedVariables false
set_option linter.unusedSimpArgs false
namespace Go.Proofs.Ytmmgiolhfekplaa.Pure
open Go.RowKit Go.Proofs.Ytmmgiolhfekplaa Go.Proofs.Ytmmgiolhfekplaa.PDiv64 Go.Proofs.Ytmmgiolhfekplaa.PWide Go.Proofs.Ytmmgiolhfekplaa.Ext Go.Proofs.YtmmgiolhfekplaaW.PrintWords Go.Proofs.YtmmgiolhfekplaaW.PrintLast Go.Proofs.YtmmgiolhfekplaaW.PrintMore

/-! ### a digit of a quotient is guessed and mended (two digits by two) -/
theorem guess_high {q y1 y0 rh u u1 : Nat} (h : q * y1 + rh = u) : q * (y1 * 4294967296 + y0) + (rh * 4294967296 + u1) = u * 4294967296 + u1 + q * y0 := by
  rw [Nat.mul_add, ← Nat.mul_assoc, ← h, Nat.add_mul]
  omega
theorem guess_gt {q y1 y0 rh u u1 : Nat} (h : q * y1 + rh = u) (hy : 0 < y1) (ht : q * y0 > 4294967296 * rh + u1) : (u * 4294967296 + u1) / (y1 * 4294967296 + y0) < q := by
  have e := guess_high (y0 := y0) (u1 := u1) h
  apply Nat.div_lt_of_lt_mul
  rw [Nat.mul_comm (y1 * 4294967296 + y0) q]
  omega
theorem guess_le {q y1 y0 rh u u1 : Nat} (h : q * y1 + rh = u) (hy : 0 < y1) (ht : q * y0 ≤ 4294967296 * rh + u1) : q ≤ (u * 4294967296 + u1) / (y1 * 4294967296 + y0) := by
  have e := guess_high (y0 := y0) (u1 := u1) h
  rw [Nat.le_div_iff_mul_le (by omega)]
  omega
theorem guess_break {q y1 y0 rh u u1 : Nat} (h : q * y1 + (rh + y1) = u) (hy : 0 < y1) (hy0 : y0 < 4294967296) (hq : q ≤ 4294967296) (hb : 4294967296 ≤ rh + y1) : q ≤ (u * 4294967296 + u1) / (y1 * 4294967296 + y0) := by
  refine guess_le h hy ?_
  have h1 : q * y0 ≤ 4294967296 * 4294967296 := Nat.mul_le_mul hq (Nat.le_of_lt hy0)
  omega
theorem guess_small {u u1 y1 y0 : Nat} (hu : u < y1 * 4294967296 + y0) (hu1 : u1 < 4294967296) : (u * 4294967296 + u1) / (y1 * 4294967296 + y0) < 4294967296 := by
  apply Nat.div_lt_of_lt_mul
  have : (u + 1) * 4294967296 ≤ (y1 * 4294967296 + y0) * 4294967296 := Nat.mul_le_mul_right _ hu
  omega
theorem wrap_mul (q y : Nat) (h : q * y < 18446744073709551616) : IntKind.u64.wrap ((q : Int) * (y : Int)) = ((q * y : Nat) : Int) := by
  rw [← Int.natCast_mul, wrap_u _ (by omega) (by omega)]
theorem prod_lt {q y0 : Nat} (hq : q ≤ 4294967296 + 1) (hy : y0 < 4294967296) : q * y0 < 18446744073709551616 := by
  have : q * y0 ≤ (4294967296 + 1) * (4294967296 - 1) := Nat.mul_le_mul hq (by omega)
  omega
theorem first_loop (y1 y0 u u1 : Nat) (x2 x8 x14 : Int) (hy1 : 0 < y1) (hy1b : y1 < 4294967296) (hy0 : y0 < 4294967296) (hu : u < y1 * 4294967296 + y0) (hu1 : u1 < 4294967296) {out : Int × Int}
    (next : Ev (fun k => bits_Div64.j2 k x2 x8 (y1 : Int) (y0 : Int) (u : Int) (u1 : Int) x14 (((u * 4294967296 + u1) / (y1 * 4294967296 + y0) : Nat) : Int)) out) (q : Nat) :
    ∀ rh : Nat, q * y1 + rh = u → rh < 4294967296 → (u * 4294967296 + u1) / (y1 * 4294967296 + y0) ≤ q → q ≤ 4294967296 + 1 →
      Ev (fun k => bits_Div64.l0 k x2 x8 (y1 : Int) (y0 : Int) (u : Int) (u1 : Int) x14 (q : Int) (rh : Int)) out := by
  have hQ := guess_small hu hu1
  induction q with
  | zero =>
    intro rh h hrh hle hq
    have hQ0 : (u * 4294967296 + u1) / (y1 * 4294967296 + y0) = 0 := Nat.le_zero.mp hle
    rw [hQ0] at next
    refine Ev.step (f := fun k => bits_Div64.j1 k x2 x8 (y1 : Int) (y0 : Int) (u : Int) (u1 : Int) x14 ((0 : Nat) : Int) (rh : Int) false) (fun k => ?_) (Ev.step (fun k => ?_) next)
    · simp only [bits_Div64.l0]
      have e1 : IntKind.u64.wrap (((0 : Nat) : Int) * (y0 : Int)) = 0 := by rw [wrap_mul 0 y0 (by omega)]; omega
      have e2 : IntKind.u64.wrap (IntKind.u64.wrap (4294967296 * (rh : Int)) + (u1 : Int)) = 4294967296 * (rh : Int) + (u1 : Int) := by
        rw [wrap_u (4294967296 * (rh : Int)) (by omega) (by omega), wrap_u _ (by omega) (by omega)]
      rw [if_neg (by omega), e1, e2, decide_eq_false (by omega)]
    · simp only [bits_Div64.j1]
      rw [if_neg (by decide)]
  | succ q ih =>
    intro rh h hrh hle hq
    have e1 : IntKind.u64.wrap (((q + 1 : Nat) : Int) * (y0 : Int)) = (((q + 1) * y0 : Nat) : Int) := wrap_mul _ _ (prod_lt hq hy0)
    have e2 : IntKind.u64.wrap (IntKind.u64.wrap (4294967296 * (rh : Int)) + (u1 : Int)) = ((4294967296 * rh + u1 : Nat) : Int) := by
      clear hle hQ e1
      rw [wrap_u (4294967296 * (rh : Int)) (by omega) (by omega), wrap_u _ (by omega) (by omega)]
      omega
    have e3 : IntKind.u64.wrap (((q + 1 : Nat) : Int) - 1) = (q : Int) := by
      clear hle hQ e1 e2
      rw [wrap_u _ (by omega) (by omega)]; omega
    have e4 : IntKind.u64.wrap ((rh : Int) + (y1 : Int)) = ((rh + y1 : Nat) : Int) := by
      clear hle hQ e1 e2 e3
      rw [wrap_u _ (by omega) (by omega)]; omega
    have hs : q * y1 + (rh + y1) = u := by rw [← h, Nat.succ_mul]; omega
    have yes : (u * 4294967296 + u1) / (y1 * 4294967296 + y0) < q + 1 → Ev (fun k => bits_Div64.j1 k x2 x8 (y1 : Int) (y0 : Int) (u : Int) (u1 : Int) x14 ((q + 1 : Nat) : Int) (rh : Int) true) out := by
      intro hgt
      rcases Nat.lt_or_ge (rh + y1) 4294967296 with hb | hb
      · refine Ev.step (fun k => ?_) (ih (rh + y1) hs hb (Nat.le_of_lt_succ hgt) (Nat.le_of_succ_le hq))
        simp only [bits_Div64.j1]
        rw [if_pos trivial, e4, e3, if_neg (by clear e1 e2 e3 e4 hle hQ hgt; omega)]
      · have heq : (u * 4294967296 + u1) / (y1 * 4294967296 + y0) = q := Nat.le_antisymm (Nat.le_of_lt_succ hgt) (guess_break hs hy1 hy0 (Nat.le_of_succ_le_succ hq) hb)
        rw [heq] at next
        refine Ev.step (fun k => ?_) next
        simp only [bits_Div64.j1]
        rw [if_pos trivial, e4, e3, if_pos (by clear e1 e2 e3 e4 hle hQ hgt heq; omega)]
    rcases Nat.lt_or_ge (q + 1) 4294967296 with c | c
    · rcases Nat.lt_or_ge (4294967296 * rh + u1) ((q + 1) * y0) with t | t
      · refine Ev.step (fun k => ?_) (yes (guess_gt h hy1 t))
        simp only [bits_Div64.l0]
        rw [if_neg (by clear e1 e2 e3 e4 hle hQ; omega), e1, e2, decide_eq_true (by exact Int.ofNat_lt.mpr t)]
      · have heq : (u * 4294967296 + u1) / (y1 * 4294967296 + y0) = q + 1 := Nat.le_antisymm hle (guess_le h hy1 t)
        rw [heq] at next
        refine Ev.step (f := fun k => bits_Div64.j1 k x2 x8 (y1 : Int) (y0 : Int) (u : Int) (u1 : Int) x14 ((q + 1 : Nat) : Int) (rh : Int) false) (fun k => ?_) (Ev.step (fun k => ?_) next)
        · simp only [bits_Div64.l0]
          rw [if_neg (by clear e1 e2 e3 e4 hle hQ heq; omega), e1, e2, decide_eq_false (by exact Int.not_lt.mpr (Int.ofNat_le.mpr t))]
        · simp only [bits_Div64.j1]
          rw [if_neg (by decide)]
    · refine Ev.step (fun k => ?_) (yes (Nat.lt_of_lt_of_le hQ c))
      simp only [bits_Div64.l0]
      rw [if_pos (by clear e1 e2 e3 e4 hle hQ; omega)]
theorem second_loop (y1 y0 u u1 v s : Nat) (hy1 : 0 < y1) (hy1b : y1 < 4294967296) (hy0 : y0 < 4294967296) (hu : u < y1 * 4294967296 + y0) (hu1 : u1 < 4294967296) (hv : v < 4294967296) (hs64 : s ≤ 64) (q : Nat) :
    ∀ rh : Nat, q * y1 + rh = u → rh < 4294967296 → (u * 4294967296 + u1) / (y1 * 4294967296 + y0) ≤ q → q ≤ 4294967296 + 1 →
      Ev (fun k => bits_Div64.l1 k ((y1 * 4294967296 + y0 : Nat) : Int) (s : Int) (y1 : Int) (y0 : Int) (u1 : Int) (v : Int) (rh : Int) (u : Int) (q : Int)) (((v * 4294967296 + (u * 4294967296 + u1) / (y1 * 4294967296 + y0) : Nat) : Int), (((u * 4294967296 + u1) % (y1 * 4294967296 + y0) / 2 ^ s : Nat) : Int)) := by
  have hQ := guess_small hu hu1
  have hend1 : ∀ q : Nat, (u * 4294967296 + u1) / (y1 * 4294967296 + y0) = q → IntKind.u64.wrap (IntKind.u64.wrap ((v : Int) * 4294967296) + (q : Int)) = ((v * 4294967296 + q : Nat) : Int) := by
    intro q hq
    rw [hq] at hQ
    clear hq hu
    rw [wrap_u ((v : Int) * 4294967296) (by omega) (by omega), wrap_u _ (by omega) (by omega)]
    omega
  have hend2 : ∀ q : Nat, (u * 4294967296 + u1) / (y1 * 4294967296 + y0) = q → shr .u64 (IntKind.u64.wrap (IntKind.u64.wrap (IntKind.u64.wrap ((u : Int) * 4294967296) + (u1 : Int)) - IntKind.u64.wrap ((q : Int) * ((y1 * 4294967296 + y0 : Nat) : Int)))) (s : Int) = (((u * 4294967296 + u1) % (y1 * 4294967296 + y0) / 2 ^ s : Nat) : Int) := by
    intro q hq
    have h1 := Nat.div_add_mod (u * 4294967296 + u1) (y1 * 4294967296 + y0)
    have h2 := Nat.mod_lt (u * 4294967296 + u1) (show 0 < y1 * 4294967296 + y0 by omega)
    rw [hq] at h1
    have e : IntKind.u64.wrap (IntKind.u64.wrap (IntKind.u64.wrap ((u : Int) * 4294967296) + (u1 : Int)) - IntKind.u64.wrap ((q : Int) * ((y1 * 4294967296 + y0 : Nat) : Int))) = (((u * 4294967296 + u1) % (y1 * 4294967296 + y0) : Nat) : Int) := by
      rw [← Int.natCast_mul, Nat.mul_comm q]
      generalize (y1 * 4294967296 + y0) * q = p at *
      generalize (u * 4294967296 + u1) % (y1 * 4294967296 + y0) = r at *
      rw [IntKind.wrap_u64, IntKind.wrap_u64, IntKind.wrap_u64, IntKind.wrap_u64]
      clear hq hQ hend1
      omega
    rw [e, shr_u _ _ hs64]
  induction q with
  | zero =>
    intro rh h hrh hle hq
    have hQ0 : (u * 4294967296 + u1) / (y1 * 4294967296 + y0) = 0 := Nat.le_zero.mp hle
    refine Ev.step (f := fun k => bits_Div64.j4 k ((y1 * 4294967296 + y0 : Nat) : Int) (s : Int) (y1 : Int) (y0 : Int) (u1 : Int) (v : Int) (rh : Int) (u : Int) ((0 : Nat) : Int) false) (fun k => ?_) (Ev.step (f := fun _ => some (((v * 4294967296 + (u * 4294967296 + u1) / (y1 * 4294967296 + y0) : Nat) : Int), (((u * 4294967296 + u1) % (y1 * 4294967296 + y0) / 2 ^ s : Nat) : Int))) (fun k => ?_) (Ev.now _))
    · simp only [bits_Div64.l1]
      have e1 : IntKind.u64.wrap (((0 : Nat) : Int) * (y0 : Int)) = 0 := by rw [wrap_mul 0 y0 (by omega)]; omega
      have e2 : IntKind.u64.wrap (IntKind.u64.wrap (4294967296 * (rh : Int)) + (u1 : Int)) = 4294967296 * (rh : Int) + (u1 : Int) := by
        clear hend1 hend2 hle hQ hQ0
        rw [wrap_u (4294967296 * (rh : Int)) (by omega) (by omega), wrap_u _ (by omega) (by omega)]
      rw [if_neg (by omega), e1, e2, decide_eq_false (by clear hend1 hend2 hle hQ hQ0 e1 e2; omega)]
    · simp only [bits_Div64.j4]
      rw [if_neg (by decide), if_pos (by omega), hend1 0 hQ0, hend2 0 hQ0, hQ0]
  | succ q ih =>
    intro rh h hrh hle hq
    have e1 : IntKind.u64.wrap (((q + 1 : Nat) : Int) * (y0 : Int)) = (((q + 1) * y0 : Nat) : Int) := wrap_mul _ _ (prod_lt hq hy0)
    have e2 : IntKind.u64.wrap (IntKind.u64.wrap (4294967296 * (rh : Int)) + (u1 : Int)) = ((4294967296 * rh + u1 : Nat) : Int) := by
      clear hle hQ e1 hend1 hend2
      rw [wrap_u (4294967296 * (rh : Int)) (by omega) (by omega), wrap_u _ (by omega) (by omega)]
      omega
    have e3 : IntKind.u64.wrap (((q + 1 : Nat) : Int) - 1) = (q : Int) := by
      clear hle hQ e1 e2 hend1 hend2
      rw [wrap_u _ (by omega) (by omega)]; omega
    have e4 : IntKind.u64.wrap ((rh : Int) + (y1 : Int)) = ((rh + y1 : Nat) : Int) := by
      clear hle hQ e1 e2 e3 hend1 hend2
      rw [wrap_u _ (by omega) (by omega)]; omega
    have hs : q * y1 + (rh + y1) = u := by rw [← h, Nat.succ_mul]; omega
    have yes : (u * 4294967296 + u1) / (y1 * 4294967296 + y0) < q + 1 → Ev (fun k => bits_Div64.j4 k ((y1 * 4294967296 + y0 : Nat) : Int) (s : Int) (y1 : Int) (y0 : Int) (u1 : Int) (v : Int) (rh : Int) (u : Int) ((q + 1 : Nat) : Int) true) (((v * 4294967296 + (u * 4294967296 + u1) / (y1 * 4294967296 + y0) : Nat) : Int), (((u * 4294967296 + u1) % (y1 * 4294967296 + y0) / 2 ^ s : Nat) : Int)) := by
      intro hgt
      rcases Nat.lt_or_ge (rh + y1) 4294967296 with hb | hb
      · refine Ev.step (fun k => ?_) (ih (rh + y1) hs hb (Nat.le_of_lt_succ hgt) (Nat.le_of_succ_le hq))
        simp only [bits_Div64.j4]
        rw [if_pos trivial, e4, e3, if_neg (by clear e1 e2 e3 e4 hle hQ hgt hend1 hend2; omega)]
      · have heq : (u * 4294967296 + u1) / (y1 * 4294967296 + y0) = q := Nat.le_antisymm (Nat.le_of_lt_succ hgt) (guess_break hs hy1 hy0 (Nat.le_of_succ_le_succ hq) hb)
        refine Ev.step (f := fun _ => some (((v * 4294967296 + (u * 4294967296 + u1) / (y1 * 4294967296 + y0) : Nat) : Int), (((u * 4294967296 + u1) % (y1 * 4294967296 + y0) / 2 ^ s : Nat) : Int))) (fun k => ?_) (Ev.now _)
        simp only [bits_Div64.j4]
        rw [if_pos trivial, e4, e3, if_pos (by clear e1 e2 e3 e4 hle hQ hgt heq hend1 hend2; omega), if_pos (by omega), hend1 q heq, hend2 q heq, heq]
    rcases Nat.lt_or_ge (q + 1) 4294967296 with c | c
    · rcases Nat.lt_or_ge (4294967296 * rh + u1) ((q + 1) * y0) with t | t
      · refine Ev.step (fun k => ?_) (yes (guess_gt h hy1 t))
        simp only [bits_Div64.l1]
        rw [if_neg (by clear e1 e2 e3 e4 hle hQ hend1 hend2; omega), e1, e2, decide_eq_true (by exact Int.ofNat_lt.mpr t)]
      · have heq : (u * 4294967296 + u1) / (y1 * 4294967296 + y0) = q + 1 := Nat.le_antisymm hle (guess_le h hy1 t)
        refine Ev.step (f := fun k => bits_Div64.j4 k ((y1 * 4294967296 + y0 : Nat) : Int) (s : Int) (y1 : Int) (y0 : Int) (u1 : Int) (v : Int) (rh : Int) (u : Int) ((q + 1 : Nat) : Int) false) (fun k => ?_) (Ev.step (f := fun _ => some (((v * 4294967296 + (u * 4294967296 + u1) / (y1 * 4294967296 + y0) : Nat) : Int), (((u * 4294967296 + u1) % (y1 * 4294967296 + y0) / 2 ^ s : Nat) : Int))) (fun k => ?_) (Ev.now _))
        · simp only [bits_Div64.l1]
          rw [if_neg (by clear e1 e2 e3 e4 hle hQ heq hend1 hend2; omega), e1, e2, decide_eq_false (by exact Int.not_lt.mpr (Int.ofNat_le.mpr t))]
        · simp only [bits_Div64.j4]
          rw [if_neg (by decide), if_pos (by omega), hend1 _ heq, hend2 _ heq, heq]
    · refine Ev.step (fun k => ?_) (yes (Nat.lt_of_lt_of_le hQ c))
      simp only [bits_Div64.l1]
      rw [if_pos (by clear e1 e2 e3 e4 hle hQ hend1 hend2; omega)]
end Go.Proofs.Ytmmgiolhfekplaa.Pure
