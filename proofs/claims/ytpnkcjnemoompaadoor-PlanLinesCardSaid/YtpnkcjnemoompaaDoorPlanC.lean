import Derived.Test.YtpnkcjnemoompaaDoorPlanB
/-! Plan: the passes, by the program and by the document. -/
namespace Go.Proofs.YtpnkcjnemoompaaDoor.Plan
open Go.RowKit Go.Proofs.YtpnkcjnemoompaaDoor Go.Proofs.YtpnkcjnemoompaaDoor.Ext Go.Proofs.YtpnkcjnemoompaaDoor.PPlan Go.Proofs.YtpnkcjnemoompaaDoor.Pure Go.Proofs.YtpnkcjnemoompaaDoorW.PrintWords Go.Proofs.YtpnkcjnemoompaaDoorW.PrintLast Go.Proofs.YtpnkcjnemoompaaDoorW.PrintMore
set_option linter.unusedVariables false
set_option linter.unusedSimpArgs false
set_option maxRecDepth 100000

theorem power_is (k : Nat) (hk : k ≤ 32) : Ev (fun n => abacistref24_power.f n (k : Int)) ((2 ^ k : Nat) : Int) := Ev.of (fun n => abacistref24_power.mono _ n) (powers ⟨k, by omega⟩)
/-- A share. -/
def shr1 (k : Nat) : Int := (plan_share.f 80 (k : Int) 1).getD 0
theorem share1 (k : Nat) (hk : k ≤ 32) : Ev (fun n => plan_share.f n (k : Int) 1) (shr1 k) := by
  refine Ev.of (k := 80) (fun n => plan_share.mono _ _ n) ?_
  have h := (shares ⟨k, by omega⟩).2
  simp only at h
  unfold shr1
  obtain ⟨x, hx⟩ := Option.isSome_iff_exists.1 h
  rw [hx]; rfl
theorem share2 (k : Nat) (hk : k ≤ 32) : Ev (fun n => abacistref08_Share.f n (k : Int)) (shr1 k) := by
  refine Ev.of (k := 80) (fun n => abacistref08_Share.mono _ n) ?_
  have h := shares ⟨k, by omega⟩
  simp only at h
  rw [← h.1]
  unfold shr1
  obtain ⟨x, hx⟩ := Option.isSome_iff_exists.1 h.2
  rw [hx]; rfl
def sh (k : Nat) (d : Int) : Int := if d = 1 then shr1 k else 1
theorem share_is (k : Nat) (hk : k ≤ 32) (d : Int) (hd : d = 0 ∨ d = 1) : Ev (fun n => plan_share.f n (k : Int) d) (sh k d) := by
  rcases hd with rfl | rfl
  · refine Ev.congr (f := fun _ => some (sh k 0)) (fun n => ?_) (Ev.now _)
    unfold plan_share.f
    rw [if_pos rfl]; rfl
  · exact share1 k hk
theorem Least2 (k : Nat) (hk : k ≤ 32) (per : Nat) (hp : per ≤ 512) : Ev (fun n => abacistref24_Least.f n (k : Int) (per : Int)) ((2 * 2 ^ ((k + 1) / 2) + per : Nat) : Int) := by
  have h1 := (half_all ⟨k, by omega⟩).1
  simp only at h1
  unfold abacistref24_Least.f
  rw [h1]
  refine Ev.bind (power_is _ (by omega)) (Ev_eq ?_)
  have := pow_lt (k := (k + 1) / 2) (by omega)
  rw [show (2 : Int) * ((2 ^ ((k + 1) / 2) : Nat) : Int) = ((2 * 2 ^ ((k + 1) / 2) : Nat) : Int) by rw [Int.natCast_mul]; rfl, wrap_is _ (by omega), ← Int.natCast_add, wrap_is _ (by omega)]
end Go.Proofs.YtpnkcjnemoompaaDoor.Plan
