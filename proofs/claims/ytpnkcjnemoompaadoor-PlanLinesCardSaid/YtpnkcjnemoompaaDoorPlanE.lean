import Derived.Test.YtpnkcjnemoompaaDoorPlanD
import Derived.BigQuiet
import Derived.Deep.QuietTactic
/-! Plan: which passes are right. -/
namespace Go.Proofs.YtpnkcjnemoompaaDoor.Plan
open Go.RowKit Go.Proofs.YtpnkcjnemoompaaDoor Go.Proofs.YtpnkcjnemoompaaDoor.Ext Go.Proofs.YtpnkcjnemoompaaDoor.PPlan Go.Proofs.YtpnkcjnemoompaaDoor.Pure Go.Proofs.YtpnkcjnemoompaaDoorW.PrintWords Go.Proofs.YtpnkcjnemoompaaDoorW.PrintLast Go.Proofs.YtpnkcjnemoompaaDoorW.PrintMore
set_option linter.unusedVariables false
set_option linter.unusedSimpArgs false
set_option maxRecDepth 100000

def inq (n : Int) : Bool := decide (0 ≤ n) && decide (n < 4)
theorem in_calls (n : Int) (w : World) : Calls Tryd.prog 112 #[.int .i64 n] w fun e w' => e = .returned (.bool (inq n)) ∧ w' = w := by
  by_cases h : 0 ≤ n
  · by_cases h2 : n < 4
    · have d1 : inq n = true := by simp [inq, h, h2]
      rw [d1]
      go_enter Tryd.func112, Tryd.ntmps112
      go_wp2
      go_ret
      exact ⟨by first | rfl | (simp; omega), rfl⟩
    · have d1 : inq n = false := by simp [inq, h2]
      rw [d1]
      go_enter Tryd.func112, Tryd.ntmps112
      go_wp2
      go_ret
      exact ⟨by first | rfl | (simp; omega), rfl⟩
  · have d1 : inq n = false := by simp [inq, h]
    rw [d1]
    go_enter Tryd.func112, Tryd.ntmps112
    go_wp2
    go_ret
    exact ⟨by first | rfl | (simp; omega), rfl⟩
def rightq (k f o : Int) : Bool := (decide (k = 1) || decide (k = 2)) && inq f && inq o
set_option maxHeartbeats 2000000 in
theorem right_calls (r c d t s k f o : Int) (w : World) : Calls Tryd.prog 79 #[.agg #[.int .i64 r, .int .i64 c, .int .i64 d, .int .i64 t, .int .u64 s, .int .i64 k, .int .i64 f, .int .i64 o]] w fun e w' => e = .returned (.bool (rightq k f o)) ∧ Below w.heap.size w w' := by
  have hb0 := below_alloc (Below.refl w.heap.size w) (Obj.cells #[.int .i64 r, .int .i64 c, .int .i64 d, .int .i64 t, .int .u64 s, .int .i64 k, .int .i64 f, .int .i64 o] 51)
  have HB := Aside0.mk hb0
  clear hb0
  by_cases hk : k = 1
  · have k1 : (k == 1) = true := by simp [hk]
    have hr : rightq k f o = (inq f && inq o) := by simp [rightq, hk]
    rw [hr]
    clear hr hk
    cases hf : inq f
    · go_enter Tryd.func79, Tryd.ntmps79
      go_wp2_with fail
      refine (in_calls f _).mono ?_
      rintro e w1 ⟨rfl, rfl⟩
      rw [hf]
      go_wp2_with fail
      go_ret
      exact ⟨rfl, HB.out⟩
    · go_enter Tryd.func79, Tryd.ntmps79
      go_wp2_with fail
      refine (in_calls f _).mono ?_
      rintro e w1 ⟨rfl, rfl⟩
      rw [hf]
      go_wp2_with fail
      refine (in_calls o _).mono ?_
      rintro e w1 ⟨rfl, rfl⟩
      go_wp2_with fail
      go_ret
      exact ⟨by simp, HB.out⟩
  · have k1 : (k == 1) = false := by simp [hk]
    by_cases hk2 : k = 2
    · have k2 : (k == 2) = true := by simp [hk2]
      have hr : rightq k f o = (inq f && inq o) := by simp [rightq, hk2]
      rw [hr]
      clear hr hk hk2
      cases hf : inq f
      · go_enter Tryd.func79, Tryd.ntmps79
        go_wp2_with fail
        refine (in_calls f _).mono ?_
        rintro e w1 ⟨rfl, rfl⟩
        rw [hf]
        go_wp2_with fail
        go_ret
        exact ⟨rfl, HB.out⟩
      · go_enter Tryd.func79, Tryd.ntmps79
        go_wp2_with fail
        refine (in_calls f _).mono ?_
        rintro e w1 ⟨rfl, rfl⟩
        rw [hf]
        go_wp2_with fail
        refine (in_calls o _).mono ?_
        rintro e w1 ⟨rfl, rfl⟩
        go_wp2_with fail
        go_ret
        exact ⟨by simp, HB.out⟩
    · have k2 : (k == 2) = false := by simp [hk2]
      have hr : rightq k f o = false := by simp [rightq, hk, hk2]
      rw [hr]
      clear hr hk hk2
      go_enter Tryd.func79, Tryd.ntmps79
      go_wp2_with fail
      go_ret
      exact ⟨rfl, HB.out⟩
end Go.Proofs.YtpnkcjnemoompaaDoor.Plan
