import Derived.Test.YtpnkcjnemoompaaDoorPlanH
import Derived.Test.YtpnkcjnemoompaaDoorFitsA
import Derived.BigQuiet
import Derived.Deep.QuietTactic
import Derived.StillTailTactics
import Derived.Deep.DeepCutAuto
import Derived.Deep.CutBlock
import Derived.Outline
/-! Plan: a job's words. -/
namespace Go.Proofs.YtpnkcjnemoompaaDoor.Plan
open Go.RowKit Go.Proofs.YtpnkcjnemoompaaDoor Go.Proofs.YtpnkcjnemoompaaDoor.Ext Go.Proofs.YtpnkcjnemoompaaDoor.PPlan Go.Proofs.YtpnkcjnemoompaaDoor.Pure Go.Proofs.YtpnkcjnemoompaaDoor.Obj Go.Proofs.YtpnkcjnemoompaaDoorW.PrintWords Go.Proofs.YtpnkcjnemoompaaDoorW.PrintLast Go.Proofs.YtpnkcjnemoompaaDoorW.PrintMore
set_option linter.unusedVariables false
set_option linter.unusedSimpArgs false
set_option maxRecDepth 100000

def badw (x : Int) : Bool := !decide (x < 18446744069414584321)
theorem good_calls (x : Int) (w : World) : Calls Tryd.prog 133 #[.int .u64 x] w fun e w' => e = .returned (.bool (decide (x < 18446744069414584321))) ∧ w' = w := by
  go_enter Tryd.func133, Tryd.ntmps133
  go_wp2
  go_ret
  exact ⟨rfl, rfl⟩
theorem badw_calls (x : Int) (w : World) : Calls Tryd.prog 132 #[.int .u64 x] w fun e w' => e = .returned (.bool (badw x)) ∧ w' = w := by
  go_enter Tryd.func132, Tryd.ntmps132
  go_wp2_with fail
  refine (good_calls x w).mono ?_
  rintro e w' ⟨rfl, rfl⟩
  go_wp2
  go_ret
  exact ⟨rfl, rfl⟩
/-- A row that came in. -/
structure In (w : World) (A : Option Addr) (c : Nat) (l : List Int) : Prop where
  r : Kd.C (Kd.int .u64) w A l.length l
  c : l.length ≤ c
theorem In.below {w W : World} {A : Option Addr} {c : Nat} {l : List Int} (h : In w A c l) (hb : Below w.heap.size w W) : In W A c l := ⟨Kd.C_below h.r hb, h.c⟩
theorem In.drewN {w : World} {A : Option Addr} {c : Nat} {l : List Int} (h : In w A c l) (n : Nat) : In (w.drewN n) A c l := ⟨Kd.C_drewN h.r n, h.c⟩
def GoodTo (l : List Int) (n : Nat) : Prop := ∀ j, j < n → l.getD j 0 < 18446744069414584321
theorem GoodTo.succ {l : List Int} {n : Nat} (h : GoodTo l n) (h2 : l.getD n 0 < 18446744069414584321) : GoodTo l (n + 1) := fun j hj => by
  rcases (by omega : j < n ∨ j = n) with q | rfl
  · exact h j q
  · exact h2
theorem rd_nat (l : List Int) (i : Nat) : rd l (i : Int) = l.getD i 0 := by unfold rd; rw [Int.toNat_natCast]
theorem index_none (A : Option Addr) (c : Nat) (l : List Int) (w : World) (hl : In w A c l) (hm : l.length ≤ 9223372036854775807) (hg : GoodTo l l.length) : Calls Tryd.prog 131 #[.slice A l.length c, .func (.func 132) #[] #[]] w fun e w' => e = .returned (.int .i64 (-1)) ∧ w' = w := by
  have HL := Aside0.mk hl
  have HG := Aside0.mk hg
  clear hl hg
  go_enter Tryd.func131, Tryd.ntmps131
  go_wp2
  go_loop [8] (fun v8 => ∃ i : Nat, v8 = .int .i64 i ∧ i ≤ l.length) (fun v8 => l.length - (intOf v8).toNat)
  case atStart => exact ⟨0, rfl, Nat.zero_le _⟩
  case round =>
    obtain ⟨i, rfl, hi⟩ := hrel
    by_cases h1 : i < l.length
    · obtain ⟨ad, q, hx⟩ := Kd.at_int HL.out.r (i : Int) (by omega) (by omega)
      cases q
      simp only [Int.toNat_natCast] at hx
      rw [rd_nat l i] at hx
      have hb : badw (l.getD i 0) = false := by unfold badw; rw [decide_eq_true (HG.out i h1)]; rfl
      have HB := Aside0.mk hb
      clear hb
      have hia : (i : Int) < (l.length : Int) := by omega
      generalize l.getD i 0 = x at *
      go_wp2_with fail
      refine (badw_calls x w).mono ?_
      rintro e w' ⟨rfl, rfl⟩
      rw [HB.out]
      go_wp2
      go_round
      case rel => exact ⟨i + 1, by go_num, by omega⟩
      case measure => simp [intOf]; omega
    · have hia : decide ((i : Int) < (l.length : Int)) = false := decide_eq_false (by omega)
      go_wp2
      go_ret
      exact ⟨rfl, rfl⟩
theorem index_some (A : Option Addr) (c : Nat) (l : List Int) (m : Nat) (w : World) (hl : In w A c l) (hm : l.length ≤ 9223372036854775807) (hml : m < l.length) (hg : GoodTo l m) (hbad : badw (l.getD m 0) = true) : Calls Tryd.prog 131 #[.slice A l.length c, .func (.func 132) #[] #[]] w fun e w' => e = .returned (.int .i64 m) ∧ w' = w := by
  have HL := Aside0.mk hl
  have HG := Aside0.mk hg
  have HX := Aside0.mk hbad
  clear hl hg hbad
  go_enter Tryd.func131, Tryd.ntmps131
  go_wp2
  go_loop [8] (fun v8 => ∃ i : Nat, v8 = .int .i64 i ∧ i ≤ m) (fun v8 => l.length - (intOf v8).toNat)
  case atStart => exact ⟨0, rfl, Nat.zero_le _⟩
  case round =>
    obtain ⟨i, rfl, hi⟩ := hrel
    obtain ⟨ad, q, hx⟩ := Kd.at_int HL.out.r (i : Int) (by omega) (by omega)
    cases q
    simp only [Int.toNat_natCast] at hx
    rw [rd_nat l i] at hx
    have hia : (i : Int) < (l.length : Int) := by omega
    by_cases h1 : i < m
    · have hb : badw (l.getD i 0) = false := by unfold badw; rw [decide_eq_true (HG.out i h1)]; rfl
      have HB := Aside0.mk hb
      clear hb
      generalize l.getD i 0 = x at *
      go_wp2_with fail
      refine (badw_calls x w).mono ?_
      rintro e w' ⟨rfl, rfl⟩
      rw [HB.out]
      go_wp2
      go_round
      case rel => exact ⟨i + 1, by go_num, by omega⟩
      case measure => simp [intOf]; omega
    · obtain rfl : i = m := by omega
      generalize l.getD i 0 = x at *
      go_wp2_with fail
      refine (badw_calls x w).mono ?_
      rintro e w' ⟨rfl, rfl⟩
      rw [HX.out]
      go_wp2
      go_ret
      exact ⟨rfl, rfl⟩
theorem check_none (A : Option Addr) (c : Nat) (l : List Int) (w : World) (hl : In w A c l) (hm : l.length ≤ 9223372036854775807) (hg : GoodTo l l.length) : Calls Tryd.prog 108 #[.slice A l.length c] w fun e w' => e = .returned (.tuple #[.int .i64 0, .bool true]) ∧ w' = w := by
  have HL := Aside0.mk hl
  have HG := Aside0.mk hg
  clear hl hg
  go_enter Tryd.func108, Tryd.ntmps108
  go_wp2_with fail
  refine (index_none A c l w HL.out hm HG.out).mono ?_
  rintro e w' ⟨rfl, rfl⟩
  go_wp2
  go_ret2
  exact ⟨by simp; omega, rfl⟩
theorem check_some (A : Option Addr) (c : Nat) (l : List Int) (m : Nat) (w : World) (hl : In w A c l) (hm : l.length ≤ 9223372036854775807) (hml : m < l.length) (hg : GoodTo l m) (hbad : badw (l.getD m 0) = true) : Calls Tryd.prog 108 #[.slice A l.length c] w fun e w' => e = .returned (.tuple #[.int .i64 m, .bool false]) ∧ w' = w := by
  have HL := Aside0.mk hl
  have HG := Aside0.mk hg
  have HX := Aside0.mk hbad
  clear hl hg hbad
  go_enter Tryd.func108, Tryd.ntmps108
  go_wp2_with fail
  refine (index_some A c l m w HL.out hm hml HG.out HX.out).mono ?_
  rintro e w' ⟨rfl, rfl⟩
  have d1 : decide ((m : Int) < 0) = false := decide_eq_false (by omega)
  go_wp2
  go_ret2
  exact ⟨by simp, rfl⟩
end Go.Proofs.YtpnkcjnemoompaaDoor.Plan
