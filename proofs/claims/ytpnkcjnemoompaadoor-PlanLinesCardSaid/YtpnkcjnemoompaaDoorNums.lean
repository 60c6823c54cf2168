import Derived.Laws.BitsAllLaws
import Derived.OpenShut
import Derived.Test.YtpnkcjnemoompaaDoorWMore
import Derived.Test.YtpnkcjnemoompaaDoorWNEv
set_option linter.unusedVariables false
set_option linter.unusedSimpArgs false
namespace Go.Proofs.YtpnkcjnemoompaaDoor.Pure
open Go.RowKit Go.Proofs.YtpnkcjnemoompaaDoor Go.Proofs.YtpnkcjnemoompaaDoorW.PrintWords Go.Proofs.YtpnkcjnemoompaaDoorW.PrintLast Go.Proofs.YtpnkcjnemoompaaDoorW.PrintMore

/-! ### plain numbers -/
theorem e64 : (2 : Nat) ^ 64 = 18446744073709551616 := by decide
theorem e128 : (2 : Nat) ^ 128 = 340282366920938463463374607431768211456 := by decide
theorem pow_split {i n : Nat} (h : i ≤ n) : 2 ^ n = 2 ^ i * 2 ^ (n - i) := by rw [← Nat.pow_add]; congr 1; omega
theorem pow_mono {i j : Nat} (h : i ≤ j) : 2 ^ i ≤ 2 ^ j := Nat.pow_le_pow_right (n := 2) (by omega) h
theorem pow_lt64 {i : Nat} (h : i < 64) : 2 ^ i ≤ 9223372036854775808 := by
  have h1 := Nat.pow_le_pow_right (n := 2) (by omega) (show i ≤ 63 by omega)
  have e : (2 : Nat) ^ 63 = 9223372036854775808 := by decide
  omega
theorem mod_bit {v i n : Nat} (h : i < n) : v % 2 ^ n / 2 ^ i % 2 = v / 2 ^ i % 2 := by
  rw [pow_split (Nat.le_of_lt h), Nat.mod_mul_right_div_self]
  exact Nat.mod_mod_of_dvd _ ⟨2 ^ (n - i - 1), by rw [← Nat.pow_succ']; congr 1; omega⟩
theorem room {v i n : Nat} (hv : v < 2 ^ n) (h : i < n) (hb : v / 2 ^ i % 2 = 0) : v + 2 ^ i < 2 ^ n := by
  have e := pow_split (Nat.le_of_lt h)
  have e2 : 2 ^ (n - i) = 2 * 2 ^ (n - i - 1) := by rw [← Nat.pow_succ']; congr 1; omega
  have hq : v / 2 ^ i < 2 ^ (n - i) := Nat.div_lt_of_lt_mul (by rw [← e]; exact hv)
  have hp : 0 < 2 ^ i := Nat.two_pow_pos i
  have h1 := Nat.div_add_mod v (2 ^ i)
  have h2 := Nat.mod_lt v hp
  have h3 : 2 ^ i * (v / 2 ^ i + 2) ≤ 2 ^ i * 2 ^ (n - i) := Nat.mul_le_mul_left _ (by omega)
  rw [← e, Nat.mul_add] at h3
  omega
theorem mod_succ (v i : Nat) : v % 2 ^ (i + 1) = v % 2 ^ i + v / 2 ^ i % 2 * 2 ^ i := by
  rw [Nat.pow_succ, Nat.mod_mul, Nat.mul_comm (2 ^ i)]
theorem bit_lt (v i : Nat) : v / 2 ^ i % 2 < 2 := Nat.mod_lt _ (by omega)

/-! ### Go's numbers -/
theorem wrap_u (n : Int) (h0 : 0 ≤ n) (h : n < 18446744073709551616) : IntKind.u64.wrap n = n := by rw [IntKind.wrap_u64]; omega
theorem wrap_i (n : Int) (h : -9223372036854775808 ≤ n) (h2 : n ≤ 9223372036854775807) : wrap64 n = n := by unfold wrap64; omega
theorem cast_pow (i : Nat) : ((2 : Int) ^ i) = ((2 ^ i : Nat) : Int) := by simp
theorem shr_u (x i : Nat) (h : i ≤ 64) : shr .u64 (x : Int) (i : Int) = ((x / 2 ^ i : Nat) : Int) := by
  unfold shr
  have e : min (i : Int).toNat IntKind.u64.bits = i := by simp [IntKind.bits]; omega
  rw [e, cast_pow, ← Int.natCast_ediv]
theorem shl_u (x i : Nat) (h : i ≤ 64) : shl .u64 (x : Int) (i : Int) = ((x * 2 ^ i % 18446744073709551616 : Nat) : Int) := by
  unfold shl
  have e : min (i : Int).toNat IntKind.u64.bits = i := by simp [IntKind.bits]; omega
  rw [e, cast_pow, ← Int.natCast_mul, IntKind.wrap_u64]
  omega
theorem Ev_if {α : Type} {c : Prop} [Decidable c] {f g : Nat → Option α} {r : α} (hc : c) (h : Ev f r) : Ev (fun n => if c then f n else g n) r := Ev.congr (fun _ => if_pos hc) h
theorem Ev_ifn {α : Type} {c : Prop} [Decidable c] {f g : Nat → Option α} {r : α} (hc : ¬ c) (h : Ev g r) : Ev (fun n => if c then f n else g n) r := Ev.congr (fun _ => if_neg hc) h
theorem Ev_eq {α : Type} {o : Option α} {r : α} (h : o = some r) : Ev (fun _ => o) r := by rw [h]; exact Ev.now _
theorem pow32 {k : Nat} (hk : k ≤ 32) : 2 ^ k ≤ 4294967296 := by
  have h := pow_mono hk
  have e : (2 : Nat) ^ 32 = 4294967296 := by decide
  omega
theorem shl_i (x k : Nat) (hk : k ≤ 63) (h : x * 2 ^ k < 9223372036854775808) : shl .i64 (x : Int) (k : Int) = ((x * 2 ^ k : Nat) : Int) := by
  unfold shl
  have e : min (k : Int).toNat IntKind.i64.bits = k := by simp [IntKind.bits]; omega
  rw [e, cast_pow, ← Int.natCast_mul, IntKind.wrap_i64]
  generalize x * 2 ^ k = y at *
  omega
theorem shl_one (k : Nat) (hk : k ≤ 32) : shl .i64 1 (IntKind.u64.wrap (k : Int)) = ((2 ^ k : Nat) : Int) := by
  have hp := pow32 hk
  rw [wrap_u _ (by omega) (by omega)]
  have h := shl_i 1 k (by omega) (by rw [Nat.one_mul]; generalize 2 ^ k = y at *; omega)
  rw [Nat.one_mul] at h
  exact h
theorem shr_i (x k : Nat) (hk : k ≤ 63) : shr .i64 (x : Int) (k : Int) = ((x / 2 ^ k : Nat) : Int) := by
  unfold shr
  have e : min (k : Int).toNat IntKind.i64.bits = k := by simp [IntKind.bits]; omega
  rw [e, cast_pow, ← Int.natCast_ediv]
theorem and_i (a b : Nat) (ha : a < 9223372036854775808) (hb : b < 9223372036854775808) : Go.bits .and .i64 (a : Int) (b : Int) = ((a &&& b : Nat) : Int) :=
  (bits_nat .i64 63 (by decide) (fun n h0 h1 => by rw [IntKind.wrap_i64]; omega) a b ha hb).1
end Go.Proofs.YtpnkcjnemoompaaDoor.Pure
