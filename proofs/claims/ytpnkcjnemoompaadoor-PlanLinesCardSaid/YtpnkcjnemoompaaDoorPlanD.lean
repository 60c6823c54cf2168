import Derived.Test.YtpnkcjnemoompaaDoorPlanC
/-! Plan: the passes are the same. -/
namespace Go.Proofs.YtpnkcjnemoompaaDoor.Plan
open Go.RowKit Go.Proofs.YtpnkcjnemoompaaDoor Go.Proofs.YtpnkcjnemoompaaDoor.Ext Go.Proofs.YtpnkcjnemoompaaDoor.PPlan Go.Proofs.YtpnkcjnemoompaaDoor.Pure Go.Proofs.YtpnkcjnemoompaaDoorW.PrintWords Go.Proofs.YtpnkcjnemoompaaDoorW.PrintLast Go.Proofs.YtpnkcjnemoompaaDoorW.PrintMore
set_option linter.unusedVariables false
set_option linter.unusedSimpArgs false
set_option maxRecDepth 100000

def ps (r c d t s k f o : Int) : S51 := ⟨⟨⟨r, c⟩, d, t, s⟩, k, f, o⟩
def longl (k : Nat) (d : Int) : List S51 :=
  [ps ((2 ^ (k / 2) : Nat) : Int) ((2 ^ (k - k / 2) : Nat) : Int) 0 (-1) 1 1 0 1, ps ((2 ^ (k - k / 2) : Nat) : Int) ((2 ^ (k / 2) : Nat) : Int) d k 1 2 1 2, ps ((2 ^ (k - k / 2) : Nat) : Int) ((2 ^ (k / 2) : Nat) : Int) 0 (-1) 1 1 2 1,
   ps ((2 ^ (k / 2) : Nat) : Int) ((2 ^ (k - k / 2) : Nat) : Int) d (-1) (sh k d) 2 1 2, ps ((2 ^ (k / 2) : Nat) : Int) ((2 ^ (k - k / 2) : Nat) : Int) 0 (-1) 1 1 2 3]
def psl (k : Nat) (d : Int) (per : Nat) (words : Int) : List S51 := if k ≤ 20 ∧ ((2 * 2 ^ k + per : Nat) : Int) ≤ words then [ps 1 ((2 ^ k : Nat) : Int) d (-1) (sh k d) 2 0 3] else longl k d
theorem even_is (k : Nat) (hk : k ≤ 32) : shape_Even.f (k : Int) = some (((2 ^ (k / 2) : Nat) : Int), ((2 ^ (k - k / 2) : Nat) : Int), 0) := by
  have h1 := half_all ⟨k, by omega⟩
  have h2 := shl_all ⟨k / 2, by omega⟩
  have h3 := shl_all ⟨k - k / 2, by omega⟩
  simp only at h1 h2 h3
  unfold shape_Even.f shape_good.f
  rw [if_pos (show (k : Int) ≥ 0 by omega), Option.bind_some, if_pos (decide_eq_true (show (k : Int) ≤ 32 by omega)), h1.2.1]
  unfold shape_split.f
  rw [if_pos h2.2.1, h1.2.2, if_pos h3.2.1, h2.2.2, h3.2.2]
  rfl
theorem long_is (k : Nat) (hk : k ≤ 32) (d : Int) (hd : d = 0 ∨ d = 1) : Ev (fun n => plan_long.f n (k : Int) d) (longl k d) := by
  unfold plan_long.f
  rw [even_is k hk]
  refine Ev.bind (Ev_eq rfl) (Ev.bind (Ev_eq rfl) (Ev.bind (Ev_eq rfl) (Ev.bind (Ev_eq rfl) (Ev.bind (Ev_eq rfl) (Ev.bind (share_is k hk d hd) (Ev.bind (Ev_eq rfl) (Ev.bind (Ev_eq rfl) (Ev_eq ?_))))))))
  rfl
theorem good_facts {k per : Int} (h : goodq k per = true) : ∃ K P : Nat, k = (K : Int) ∧ per = (P : Int) ∧ K ≤ 32 ∧ 4 ≤ P ∧ P ≤ 512 ∧ perq P = true := by
  simp only [goodq, Bool.and_eq_true, decide_eq_true_eq] at h
  obtain ⟨⟨⟨h1, h2⟩, h3⟩, h4⟩ := h
  have := perq_le h4
  exact ⟨k.toNat, per.toNat, by omega, by omega, by omega, this.1, this.2, h4⟩
theorem passes_ok (k P : Nat) (d words : Int) (hg : goodq k P = true) (hd : d = 0 ∨ d = 1) (hw : ((2 * 2 ^ ((k + 1) / 2) + P : Nat) : Int) ≤ words) : Ev (fun n => plan_Passes.f n (k : Int) d (P : Int) words) (psl k d P words, 0) := by
  obtain ⟨K', P', e1, e2, hk, hp4, hp, hq⟩ := good_facts hg
  obtain rfl : K' = k := by omega
  obtain rfl : P' = P := by omega
  unfold plan_Passes.f
  refine Ev.bind (Ev_eq (good_is _ _)) (Ev_if hg (Ev_ifn (by omega) ?_))
  rw [decide_eq_false (show ¬ d > 1 by omega)]
  have hlong : Ev (fun n => plan_Passes.j1 n (K' : Int) d false) (longl K' d, 0) := by
    refine Ev.step (f := fun n => (plan_long.f n (K' : Int) d).bind fun t => some (t, 0)) (fun n => ?_) (Ev.bind (long_is K' hk d hd) (Ev_eq rfl))
    simp only [plan_Passes.j1]
    rw [if_neg (by decide)]
  have hshort : Ev (fun n => plan_Passes.j1 n (K' : Int) d true) ([ps 1 ((2 ^ K' : Nat) : Int) d (-1) (sh K' d) 2 0 3], 0) := by
    have h3 := shl_all ⟨K', by omega⟩
    simp only at h3
    refine Ev.step (f := fun n => (plan_share.f n (K' : Int) d).bind fun t => some ([ps 1 ((2 ^ K' : Nat) : Int) d (-1) t 2 0 3], 0)) (fun n => ?_) (Ev.bind (share_is K' hk d hd) (Ev_eq rfl))
    simp only [plan_Passes.j1]
    rw [if_pos trivial, if_pos h3.2.1, h3.2.2]
    rfl
  refine Ev.step (f := fun n => if shortq K' P' words = true then plan_Passes.j1 n (K' : Int) d (decide ((K' : Int) ≤ 20)) else plan_Passes.j1 n (K' : Int) d false) (fun n => ?_) ?_
  · simp only [plan_Passes.j0]
    rw [if_neg (by decide), least_is K' P' hk hp, Option.bind_some, if_neg (by omega), Short_is, Option.bind_some]
  · have hS : shortq K' P' words = decide (((2 * 2 ^ K' + P' : Nat) : Int) ≤ words) := by
      unfold shortq
      rw [hg, Bool.true_and, Int.toNat_natCast, Int.natCast_add]
    unfold psl
    by_cases h1 : ((2 * 2 ^ K' + P' : Nat) : Int) ≤ words
    · refine Ev_if (by rw [hS]; exact decide_eq_true h1) ?_
      by_cases h2 : K' ≤ 20
      · rw [if_pos ⟨h2, h1⟩, decide_eq_true (show (K' : Int) ≤ 20 by omega)]
        exact hshort
      · rw [if_neg (fun h => h2 h.1), decide_eq_false (show ¬ (K' : Int) ≤ 20 by omega)]
        exact hlong
    · rw [if_neg (fun h => h1 h.2)]
      refine Ev_ifn (by rw [hS]; simpa using h1) hlong
theorem passes_arg (k d per words : Int) (hg : ¬ goodq k per = true) : Ev (fun n => plan_Passes.f n k d per words) ([], 1) := by
  unfold plan_Passes.f
  exact Ev.bind (Ev_eq (good_is _ _)) (Ev_ifn hg (Ev_eq rfl))
theorem passes_kind (k d per words : Int) (hg : goodq k per = true) (hd : ¬ (d = 0 ∨ d = 1)) : Ev (fun n => plan_Passes.f n k d per words) ([], 18) := by
  unfold plan_Passes.f
  refine Ev.bind (Ev_eq (good_is _ _)) (Ev_if hg ?_)
  have hj : Ev (fun n => plan_Passes.j0 n k d per words true) ([], 18) := by
    refine Ev.step (f := fun _ => some (([] : List S51), (18 : Int))) (fun n => ?_) (Ev.now _)
    simp only [plan_Passes.j0]
    rw [if_pos trivial]
  by_cases h : d < 0
  · exact Ev_if h hj
  · refine Ev_ifn h ?_
    rw [decide_eq_true (show d > 1 by omega)]
    exact hj
theorem passes_arena (k P : Nat) (d words : Int) (hg : goodq k P = true) (hd : d = 0 ∨ d = 1) (hw : words < ((2 * 2 ^ ((k + 1) / 2) + P : Nat) : Int)) : Ev (fun n => plan_Passes.f n (k : Int) d (P : Int) words) ([], 6) := by
  obtain ⟨K', P', e1, e2, hk, hp4, hp, hq⟩ := good_facts hg
  obtain rfl : K' = k := by omega
  obtain rfl : P' = P := by omega
  unfold plan_Passes.f
  refine Ev.bind (Ev_eq (good_is _ _)) (Ev_if hg (Ev_ifn (by omega) ?_))
  rw [decide_eq_false (show ¬ d > 1 by omega)]
  refine Ev.step (f := fun _ => some (([] : List S51), (6 : Int))) (fun n => ?_) (Ev.now _)
  simp only [plan_Passes.j0]
  rw [if_neg (by decide), least_is K' P' hk hp, Option.bind_some, if_pos hw]
/-- The document's passes. -/
theorem passes_ref (k P : Nat) (d words : Int) (hk : k ≤ 32) (hp : P ≤ 512) (hd : d = 0 ∨ d = 1) : Ev (fun n => abacistref24_Passes.f n (k : Int) d (P : Int) words) (psl k d P words) := by
  have h1 := half_all ⟨k, by omega⟩
  simp only at h1
  have hj1 : ∀ s : Int, s = sh k d → Ev (fun n => abacistref24_Passes.j1 n (k : Int) d s false) (longl k d) := by
    intro s hs
    refine Ev.step (f := fun n => (abacistref24_power.f n ((k / 2 : Nat) : Int)).bind fun a => (abacistref24_power.f n ((k - k / 2 : Nat) : Int)).bind fun b => some [ps a b 0 (-1) 1 1 0 1, ps b a d k 1 2 1 2, ps b a 0 (-1) 1 1 2 1, ps a b d (-1) s 2 1 2, ps a b 0 (-1) 1 1 2 3]) (fun n => ?_) (Ev.bind (power_is _ (by omega)) (Ev.bind (power_is _ (by omega)) (Ev_eq (by rw [hs]; rfl))))
    simp only [abacistref24_Passes.j1]
    rw [if_neg (by decide), h1.2.1, h1.2.2]
    rfl
  have hj2 : ∀ s : Int, s = sh k d → Ev (fun n => abacistref24_Passes.j1 n (k : Int) d s true) [ps 1 ((2 ^ k : Nat) : Int) d (-1) (sh k d) 2 0 3] := by
    intro s hs
    refine Ev.step (f := fun n => (abacistref24_power.f n (k : Int)).bind fun a => some [ps 1 a d (-1) s 2 0 3]) (fun n => ?_) (Ev.bind (power_is _ hk) (Ev_eq (by rw [hs])))
    simp only [abacistref24_Passes.j1]
    rw [if_pos trivial]
    rfl
  have hj0 : ∀ s : Int, s = sh k d → Ev (fun n => abacistref24_Passes.j0 n (k : Int) d (P : Int) words s) (psl k d P words) := by
    intro s hs
    unfold psl
    by_cases h2 : k ≤ 20
    · refine Ev.step (f := fun n => (abacistref24_power.f n (k : Int)).bind fun t => abacistref24_Passes.j1 n (k : Int) d s (decide (wrap64 (wrap64 (2 * t) + (P : Int)) ≤ words))) (fun n => ?_) (Ev.bind (power_is _ hk) ?_)
      · simp only [abacistref24_Passes.j0]
        rw [if_pos (show (k : Int) ≤ 20 by omega)]
      · have hpw := pow_lt hk
        rw [show (2 : Int) * ((2 ^ k : Nat) : Int) = ((2 * 2 ^ k : Nat) : Int) by rw [Int.natCast_mul]; rfl, wrap_is _ (by omega), ← Int.natCast_add, wrap_is _ (by omega)]
        by_cases h3 : ((2 * 2 ^ k + P : Nat) : Int) ≤ words
        · rw [if_pos ⟨h2, h3⟩, decide_eq_true h3]
          exact hj2 s hs
        · rw [if_neg (fun h => h3 h.2), decide_eq_false h3]
          exact hj1 s hs
    · rw [if_neg (fun h => h2 h.1)]
      refine Ev.step (f := fun n => abacistref24_Passes.j1 n (k : Int) d s false) (fun n => ?_) (hj1 s hs)
      simp only [abacistref24_Passes.j0]
      rw [if_neg (show ¬ (k : Int) ≤ 20 by omega)]
  unfold abacistref24_Passes.f
  rcases hd with rfl | rfl
  · exact Ev_ifn (by decide) (hj0 1 rfl)
  · exact Ev_if rfl (Ev.bind (share2 k hk) (hj0 _ rfl))
end Go.Proofs.YtpnkcjnemoompaaDoor.Plan
