import Derived.Laws.BitsAllLaws
import Derived.OpenShut
import Derived.Test.YtmmgiolhfekplaaPWidex2
import Derived.Test.YtmmgiolhfekplaaPWidex5
import Derived.Test.YtmmgiolhfekplaaWNEv
import Derived.Test.YtmmgiolhfekplaaWideH
set_option linter.unusedVariables false
set_option linter.unusedSimpArgs false
namespace Go.Proofs.Ytmmgiolhfekplaa.Pure
open Go.RowKit Go.Proofs.Ytmmgiolhfekplaa Go.Proofs.Ytmmgiolhfekplaa.PWide Go.Proofs.Ytmmgiolhfekplaa.Ext Go.Proofs.YtmmgiolhfekplaaW.PrintWords Go.Proofs.YtmmgiolhfekplaaW.PrintLast Go.Proofs.YtmmgiolhfekplaaW.PrintMore

/-- A number's decimal digits, ahead of what there is. -/
def digs : Nat → Nat → List Int → List Int
  | 0, _, acc => acc
  | n + 1, v, acc => if v / 10 = 0 then ((48 + v % 10 : Nat) : Int) :: acc else digs n (v / 10) (((48 + v % 10 : Nat) : Int) :: acc)
theorem hl_zero (v : Nat) (hv : v < 340282366920938463463374607431768211456) : (hiw v == 0 && (low v == 0)) = decide (v = 0) := by
  rw [Bool.eq_iff_iff]
  simp only [Bool.and_eq_true, beq_iff_eq, decide_eq_true_eq]
  unfold hiw low
  omega
theorem wtext_loop (n : Nat) : ∀ (v : Nat) (acc : List Int), v < 340282366920938463463374607431768211456 → v < 10 ^ n → 0 < n → acc.length + n ≤ 1000 →
    Ev (fun k => wide_Text.l0 k acc (hiw v) (low v)) (strOfNums (digs n v acc)) := by
  induction n with
  | zero => intro v acc _ _ h _; omega
  | succ n ih =>
    intro v acc hv hlt _ hlen
    have hq : v / 10 < 340282366920938463463374607431768211456 := by clear hlt; omega
    have e1 : IntKind.u64.wrap (48 + ((v % 10 : Nat) : Int)) % 256 = ((48 + v % 10 : Nat) : Int) := by
      clear hlt
      rw [wrap_u _ (by omega) (by omega)]; omega
    have e2 : ([((48 + v % 10 : Nat) : Int)] : List Int).length + acc.length < 140737488355328 := by
      simp only [List.length_cons, List.length_nil]; clear hlt; omega
    refine Ev.step (f := fun k => (wide_Rem.f k (hiw v) (low v) 10).bind fun bt106 => ((some (([(IntKind.u64.wrap (48 + bt106.2.2.1)) % 256] : List Int) : List Int)).bind fun y111 => (if y111.length + acc.length < 140737488355328 then ((some (y111 ++ acc : List Int)).bind fun y114 => (if (bt106.1 == 0 && (bt106.2.1 == 0)) = true then (some (strOfNums y114)) else (wide_Text.l0 k y114 bt106.1 bt106.2.1))) else (none)))) (fun k => rfl) ?_
    refine Ev.bind (wrem_ v 10 hv (by omega) (by omega)) ?_
    simp only [Option.bind_some]
    rw [e1]
    simp only [if_pos e2]
    rw [hl_zero _ hq]
    simp only [List.cons_append, List.nil_append]
    unfold digs
    by_cases h0 : v / 10 = 0
    · rw [if_pos h0, decide_eq_true h0]
      simp only [if_true]
      exact Ev.now _
    · rw [if_neg h0, decide_eq_false h0]
      simp only [Bool.false_eq_true, if_false]
      have hn : 0 < n := by
        rcases Nat.eq_zero_or_pos n with c | c
        · rw [c] at hlt; simp at hlt; omega
        · exact c
      exact ih (v / 10) _ hq (Nat.div_lt_of_lt_mul (by rw [Nat.pow_succ, Nat.mul_comm] at hlt; exact hlt)) hn (by simp only [List.length_cons]; clear hlt; omega)
theorem ten39 (v : Nat) (hv : v < 340282366920938463463374607431768211456) : v < 10 ^ 39 := by
  have e : (10 : Nat) ^ 39 = 1000000000000000000000000000000000000000 := by decide
  rw [e]; omega
theorem wtext_ (v : Nat) (hv : v < 340282366920938463463374607431768211456) : Ev (fun k => wide_Text.f k (hiw v) (low v)) (strOfNums (digs 39 v [])) := by
  have h := wtext_loop 39 v [] hv (ten39 v hv) (by decide) (by decide)
  exact Ev.congr (fun k => rfl) h
theorem str_append (a b : List Int) : strOfNums a ++ strOfNums b = strOfNums (a ++ b) := by
  apply ByteArray.ext
  simp [strOfNums, ByteArray.data_append]
theorem awake_ : Ev (fun k => abacistlaw01_awake.f k) true := by
  have h1 := wmul_ 9223372036854775808 4 (by omega) (by omega)
  have h2 := wtext_ 18446744073709551616 (by omega)
  refine Ev.congr (f := fun k => (wide_Mul.f ((9223372036854775808 : Nat) : Int) ((4 : Nat) : Int)).bind fun bt117 => (if (bt117.1 == 2 && (bt117.2 == 0)) = true then ((wide_Text.f k 1 0).bind fun t119 => (some (t119.toList == ([49, 56, 52, 52, 54, 55, 52, 52, 48, 55, 51, 55, 48, 57, 53, 53, 49, 54, 49, 54] : List UInt8)))) else (some false))) (fun k => rfl) ?_
  rw [h1]
  simp only [Option.bind_some]
  have e1 : (hiw (9223372036854775808 * 4) == 2 && (low (9223372036854775808 * 4) == 0)) = true := by decide
  simp only [if_pos e1]
  have e2 : hiw 18446744073709551616 = 1 := by decide
  have e3 : low 18446744073709551616 = 0 := by decide
  rw [e2, e3] at h2
  refine Ev.bind h2 ?_
  have e4 : ((strOfNums (digs 39 18446744073709551616 [])).toList == ([49, 56, 52, 52, 54, 55, 52, 52, 48, 55, 51, 55, 48, 57, 53, 53, 49, 54, 49, 54] : List UInt8)) = true := by decide +kernel
  rw [e4]
  exact Ev.now _
end Go.Proofs.Ytmmgiolhfekplaa.Pure
