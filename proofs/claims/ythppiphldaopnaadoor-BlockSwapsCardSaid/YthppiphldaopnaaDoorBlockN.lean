import Derived.Test.YthppiphldaopnaaDoorBlockM
import Derived.Test.YthppiphldaopnaaDoorBlockP
/-! Blocks: what two tiles' words are when they have changed places. -/
namespace Go.Proofs.YthppiphldaopnaaDoor.Obj
open Go.RowKit Go.Proofs.YthppiphldaopnaaDoor Go.Proofs.YthppiphldaopnaaDoor.Ext Go.Proofs.YthppiphldaopnaaDoor.PShape Go.Proofs.YthppiphldaopnaaDoor.PBlk Go.Proofs.YthppiphldaopnaaDoor.Pure Go.Proofs.YthppiphldaopnaaDoorW.PrintWords Go.Proofs.YthppiphldaopnaaDoorW.PrintLast Go.Proofs.YthppiphldaopnaaDoorW.PrintMore
set_option linter.unusedVariables false
set_option linter.unusedSimpArgs false

/-- The document's answer: pair by pair, out of the row as it was. -/
def mets (l : List Int) (f g : Nat → Nat) : Nat → List Int
  | 0 => l
  | m + 1 => ((mets l f g m).set (f m) (l.getD (g m) 0)).set (g m) (l.getD (f m) 0)
theorem mets_len (l : List Int) (f g : Nat → Nat) (m : Nat) : (mets l f g m).length = l.length := by
  induction m with
  | zero => rfl
  | succ m ih => simp only [mets, List.length_set, ih]
theorem getD_set_ne {l : List Int} {i j : Nat} {x : Int} (h : i ≠ j) : (l.set i x).getD j 0 = l.getD j 0 := by simp [List.getD, List.getElem?_set, h]
theorem mets_out {l : List Int} {f g : Nat → Nat} {m p : Nat} (h : ∀ j, j < m → f j ≠ p ∧ g j ≠ p) : (mets l f g m).getD p 0 = l.getD p 0 := by
  induction m with
  | zero => rfl
  | succ m ih =>
    simp only [mets]
    rw [getD_set_ne (h m (by omega)).2, getD_set_ne (h m (by omega)).1]
    exact ih fun j hj => h j (by omega)
theorem swp_mets {l : List Int} {f g : Nat → Nat} {m : Nat} (h : ∀ i j, i < j → j < m → f i ≠ f j ∧ f i ≠ g j ∧ g i ≠ f j ∧ g i ≠ g j) : swp l f g m = mets l f g m := by
  induction m with
  | zero => rfl
  | succ m ih =>
    have e := ih fun i j hi hj => h i j hi (by omega)
    simp only [swp, mets]
    rw [e, mets_out (p := g m) fun j hj => ⟨(h j m hj (by omega)).2.1, (h j m hj (by omega)).2.2.2⟩, mets_out (p := f m) fun j hj => ⟨(h j m hj (by omega)).1, (h j m hj (by omega)).2.2.1⟩]
theorem set_same (l : List Int) (i : Nat) (h : i < l.length) : l.set i (l.getD i 0) = l := by
  rw [getD_lt _ _ h]
  exact List.set_getElem_self h
theorem mets_same {l : List Int} {f : Nat → Nat} {m : Nat} (h : ∀ j, j < m → f j < l.length) : mets l f f m = l := by
  induction m with
  | zero => rfl
  | succ m ih =>
    simp only [mets]
    rw [ih fun j hj => h j (by omega), set_same _ _ (h m (by omega)), set_same _ _ (h m (by omega))]
/-- Does a word's other place lie in the tile? -/
def inT (tr tc r0 c0 r1 c1 m : Nat) : Prop := r0 ≤ r1 + m / tc ∧ r1 + m / tc < r0 + tr ∧ c0 ≤ c1 + m % tc ∧ c1 + m % tc < c0 + tc
instance (tr tc r0 c0 r1 c1 m : Nat) : Decidable (inT tr tc r0 c0 r1 c1 m) := by unfold inT; infer_instance
def shr (tr tc r0 c0 r1 c1 : Nat) : Nat → Bool
  | 0 => false
  | m + 1 => shr tr tc r0 c0 r1 c1 m || decide (inT tr tc r0 c0 r1 c1 m)
theorem shr_iff (tr tc r0 c0 r1 c1 M : Nat) : shr tr tc r0 c0 r1 c1 M = true ↔ ∃ m, m < M ∧ inT tr tc r0 c0 r1 c1 m := by
  induction M with
  | zero => exact ⟨fun h => Bool.noConfusion h, fun ⟨m, h, _⟩ => by omega⟩
  | succ M ih =>
    simp only [shr, Bool.or_eq_true, decide_eq_true_eq, ih]
    constructor
    · rintro (⟨m, h, h2⟩ | h)
      · exact ⟨m, by omega, h2⟩
      · exact ⟨M, by omega, h⟩
    · rintro ⟨m, h, h2⟩
      by_cases e : m = M
      · subst e; exact .inr h2
      · exact .inl ⟨m, by omega, h2⟩
def Apart (tr tc r0 c0 r1 c1 : Nat) : Prop := r0 + tr ≤ r1 ∨ r1 + tr ≤ r0 ∨ c0 + tc ≤ c1 ∨ c1 + tc ≤ c0
instance (tr tc r0 c0 r1 c1 : Nat) : Decidable (Apart tr tc r0 c0 r1 c1) := by unfold Apart; infer_instance
theorem div_lt_of {m a b : Nat} (h : m < a * b) : m / b < a := by
  rcases Nat.eq_zero_or_pos b with h0 | h0
  · subst h0; simp at h
  · exact (Nat.div_lt_iff_lt_mul h0).2 h
theorem shr_yes {tr tc r0 c0 r1 c1 : Nat} (hp : 1 ≤ tr ∧ 1 ≤ tc) (h : ¬ Apart tr tc r0 c0 r1 c1) : shr tr tc r0 c0 r1 c1 (tr * tc) = true := by
  unfold Apart at h
  refine (shr_iff ..).2 ⟨(r0 - r1) * tc + (c0 - c1), ?_, ?_⟩
  · have : (r0 - r1 + 1) * tc ≤ tr * tc := Nat.mul_le_mul_right _ (by omega)
    rw [Nat.add_mul] at this
    omega
  · have h1 : ((r0 - r1) * tc + (c0 - c1)) / tc = r0 - r1 := by rw [Nat.mul_comm, Nat.mul_add_div (by omega), Nat.div_eq_of_lt (by omega), Nat.add_zero]
    have h2 : ((r0 - r1) * tc + (c0 - c1)) % tc = c0 - c1 := by rw [Nat.mul_comm, Nat.mul_add_mod, Nat.mod_eq_of_lt (by omega)]
    unfold inT
    rw [h1, h2]
    omega
theorem shr_no {tr tc r0 c0 r1 c1 : Nat} (hp : 1 ≤ tr ∧ 1 ≤ tc) (h : Apart tr tc r0 c0 r1 c1) : shr tr tc r0 c0 r1 c1 (tr * tc) = false := by
  rw [← Bool.not_eq_true, shr_iff]
  rintro ⟨m, hm, hi⟩
  have h1 := div_lt_of hm
  have h2 := Nat.mod_lt m hp.2
  unfold inT at hi
  unfold Apart at h
  generalize m / tc = a at *
  generalize m % tc = b at *
  omega
theorem pl_inj {C tc r0 c0 r1 c1 i j : Nat} (hp : 1 ≤ tc) (h0 : c0 + tc ≤ C) (h1 : c1 + tc ≤ C) (h : pl C tc r0 c0 i = pl C tc r1 c1 j) : r0 + i / tc = r1 + j / tc ∧ c0 + i % tc = c1 + j % tc := by
  have h2 := Nat.mod_lt i hp
  have h3 := Nat.mod_lt j hp
  unfold pl at h
  have := place_inj (i := c0 + i % tc) (j := r0 + i / tc) (a := c1 + j % tc) (b := r1 + j / tc) (show c0 + i % tc < C by omega) (show c1 + j % tc < C by omega) (by omega)
  omega
theorem same_divmod {i j t : Nat} (h1 : i / t = j / t) (h2 : i % t = j % t) : i = j := by rw [← Nat.div_add_mod i t, ← Nat.div_add_mod j t, h1, h2]
theorem swp_ok {R C tr tc r0 c0 r1 c1 : Nat} {l : List Int} (h0 : Til R C tr tc r0 c0 l.length) (h1 : Til R C tr tc r1 c1 l.length) (h : Apart tr tc r0 c0 r1 c1) : swp l (pl C tc r0 c0) (pl C tc r1 c1) (tr * tc) = mets l (pl C tc r0 c0) (pl C tc r1 c1) (tr * tc) := by
  have hp := h0.pos.2
  have k0 := h0.c
  have k1 := h1.c
  unfold Apart at h
  refine swp_mets fun i j hi hj => ⟨fun e => ?_, fun e => ?_, fun e => ?_, fun e => ?_⟩
  · have := pl_inj hp k0 k0 e
    exact absurd (same_divmod (t := tc) (i := i) (j := j) (by omega) (by omega)) (by omega)
  · have := pl_inj hp k0 k1 e
    have a1 := div_lt_of (show i < tr * tc by omega)
    have a2 := div_lt_of hj
    have a3 := Nat.mod_lt i hp
    have a4 := Nat.mod_lt j hp
    generalize i / tc = b1 at *
    generalize i % tc = b2 at *
    generalize j / tc = b3 at *
    generalize j % tc = b4 at *
    omega
  · have := pl_inj hp k1 k0 e
    have a1 := div_lt_of (show i < tr * tc by omega)
    have a2 := div_lt_of hj
    have a3 := Nat.mod_lt i hp
    have a4 := Nat.mod_lt j hp
    generalize i / tc = b1 at *
    generalize i % tc = b2 at *
    generalize j / tc = b3 at *
    generalize j % tc = b4 at *
    omega
  · have := pl_inj hp k1 k1 e
    exact absurd (same_divmod (t := tc) (i := i) (j := j) (by omega) (by omega)) (by omega)
theorem pl_lt {R C tr tc r0 c0 m n : Nat} (h : Til R C tr tc r0 c0 n) (hm : m < tr * tc) : pl C tc r0 c0 m < n := by
  have h1 := h.at_ (div_lt_of hm)
  have h2 := Nat.mod_lt m h.pos.2
  unfold pl
  omega
theorem apart_f {R C tr tc r0 c0 r1 c1 n : Nat} (h0 : Til R C tr tc r0 c0 n) (h1 : Til R C tr tc r1 c1 n) : block_apart.f tr tc r0 c0 tr tc r1 c1 = some (decide (Apart tr tc r0 c0 r1 c1)) := by
  have s := h0.small
  have a1 := h0.r
  have a2 := h0.c
  have a3 := h1.r
  have a4 := h1.c
  have e1 : wrap64 ((r0 : Int) + (tr : Int)) = ((r0 + tr : Nat) : Int) := wsum _ _ (by omega)
  have e2 : wrap64 ((r1 : Int) + (tr : Int)) = ((r1 + tr : Nat) : Int) := wsum _ _ (by clear e1; omega)
  have e3 : wrap64 ((c0 : Int) + (tc : Int)) = ((c0 + tc : Nat) : Int) := wsum _ _ (by clear e1 e2; omega)
  have e4 : wrap64 ((c1 : Int) + (tc : Int)) = ((c1 + tc : Nat) : Int) := wsum _ _ (by clear e1 e2 e3; omega)
  unfold block_apart.f
  rw [e1, e2, e3, e4]
  clear e1 e2 e3 e4
  by_cases q1 : r0 + tr ≤ r1
  · rw [if_pos (by omega), decide_eq_true (show Apart tr tc r0 c0 r1 c1 from .inl q1)]
  · rw [if_neg (by omega)]
    by_cases q2 : r1 + tr ≤ r0
    · rw [if_pos (by omega), decide_eq_true (show Apart tr tc r0 c0 r1 c1 from .inr (.inl q2))]
    · rw [if_neg (by omega)]
      by_cases q3 : c0 + tc ≤ c1
      · rw [if_pos (by omega), decide_eq_true (show Apart tr tc r0 c0 r1 c1 from .inr (.inr (.inl q3)))]
      · rw [if_neg (by omega)]
        congr 1
        by_cases q4 : c1 + tc ≤ c0
        · rw [decide_eq_true (show ((c1 + tc : Nat) : Int) ≤ (c0 : Int) by omega), decide_eq_true (show Apart tr tc r0 c0 r1 c1 from .inr (.inr (.inr q4)))]
        · rw [decide_eq_false (show ¬ ((c1 + tc : Nat) : Int) ≤ (c0 : Int) by omega), decide_eq_false (show ¬ Apart tr tc r0 c0 r1 c1 by unfold Apart; omega)]
/-- What Swap answers. -/
inductive SwapRes (l : List Int) (C tr tc r0 c0 r1 c1 : Nat) : Int → List Int → Prop where
  | same (h1 : r0 = r1) (h2 : c0 = c1) : SwapRes l C tr tc r0 c0 r1 c1 0 l
  | odd (h1 : ¬ (r0 = r1 ∧ c0 = c1)) (h2 : ¬ Apart tr tc r0 c0 r1 c1) : SwapRes l C tr tc r0 c0 r1 c1 19 l
  | ok (h1 : ¬ (r0 = r1 ∧ c0 = c1)) (h2 : Apart tr tc r0 c0 r1 c1) : SwapRes l C tr tc r0 c0 r1 c1 0 (swp l (pl C tc r0 c0) (pl C tc r1 c1) (tr * tc))
theorem swap_ (p g R C tr tc r0 c0 r1 c1 : Nat) (xs : List Int) (w : World) (h : Blo w p g R C xs) (h1 : Til R C tr tc r0 c0 xs.length) (h2 : Til R C tr tc r1 c1 xs.length) (hT : TabOK w) :
    Calls Tryd.prog 41 #[.pointer (some ⟨p, 0, none⟩), .agg #[.int .i64 tr, .int .i64 tc, .int .i64 r0, .int .i64 c0], .int .i64 r1, .int .i64 c1] w fun e w' => ∃ n ys, e = .returned (.int .i64 n) ∧ SwapRes xs C tr tc r0 c0 r1 c1 n ys ∧ Blo w' p g R C ys ∧ Fr w w' [g] := by
  have hk := apart_f h1 h2
  by_cases e1 : r0 = r1
  · by_cases e2 : c0 = c1
    · refine (swap_eq p g R C tr tc r0 c0 r1 c1 xs w h h1.lies h2.lies (by simp [e1]) (by simp [e2]) hT).mono ?_
      rintro e w' ⟨rfl, hb⟩
      exact ⟨_, _, rfl, .same e1 e2, h.below hb, Fr.of_below hb _⟩
    · have b1 : ((r0 : Int) == (r1 : Int)) = true := by simp [e1]
      have b2 : ((c0 : Int) == (c1 : Int)) = false := by simp; omega
      by_cases ha : Apart tr tc r0 c0 r1 c1
      · rw [decide_eq_true ha] at hk
        refine (swap_ok2 p g R C tr tc r0 c0 r1 c1 xs w h h1 h2 b1 b2 hk hT).mono ?_
        rintro e w' ⟨rfl, hb, hf⟩
        exact ⟨_, _, rfl, .ok (fun h => e2 h.2) ha, hb, hf⟩
      · rw [decide_eq_false ha] at hk
        refine (swap_odd2 p g R C tr tc r0 c0 r1 c1 xs w h h1.lies h2.lies b1 b2 hk hT).mono ?_
        rintro e w' ⟨rfl, hb⟩
        exact ⟨_, _, rfl, .odd (fun h => e2 h.2) ha, h.below hb, Fr.of_below hb _⟩
  · have b1 : ((r0 : Int) == (r1 : Int)) = false := by simp; omega
    by_cases ha : Apart tr tc r0 c0 r1 c1
    · rw [decide_eq_true ha] at hk
      refine (swap_ok1 p g R C tr tc r0 c0 r1 c1 xs w h h1 h2 b1 hk hT).mono ?_
      rintro e w' ⟨rfl, hb, hf⟩
      exact ⟨_, _, rfl, .ok (fun h => e1 h.1) ha, hb, hf⟩
    · rw [decide_eq_false ha] at hk
      refine (swap_odd1 p g R C tr tc r0 c0 r1 c1 xs w h h1.lies h2.lies b1 hk hT).mono ?_
      rintro e w' ⟨rfl, hb⟩
      exact ⟨_, _, rfl, .odd (fun h => e1 h.1) ha, h.below hb, Fr.of_below hb _⟩
end Go.Proofs.YthppiphldaopnaaDoor.Obj
