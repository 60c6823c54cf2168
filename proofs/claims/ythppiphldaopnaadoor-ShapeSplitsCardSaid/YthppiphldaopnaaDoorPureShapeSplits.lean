/- The splits of any exponent are all shapes of its size, and the even one is the one in their middle: for every int. -/
import Derived.Laws.BitsAllLaws
import Derived.OpenShut
import Derived.Test.YthppiphldaopnaaDoorPShapex2
import Derived.Test.YthppiphldaopnaaDoorPShapex3
import Derived.Test.YthppiphldaopnaaDoorWNEv
import Derived.Test.YthppiphldaopnaaDoorShapeB
set_option linter.unusedVariables false
set_option linter.unusedSimpArgs false
namespace Go.Proofs.YthppiphldaopnaaDoor.Pure
open Go.RowKit Go.Proofs.YthppiphldaopnaaDoor Go.Proofs.YthppiphldaopnaaDoor.PShape Go.Proofs.YthppiphldaopnaaDoor.Ext Go.Proofs.YthppiphldaopnaaDoorW.PrintWords Go.Proofs.YthppiphldaopnaaDoorW.PrintLast Go.Proofs.YthppiphldaopnaaDoorW.PrintMore

theorem goodk_ (k : Int) : shape_good.f k = some (decide (0 ≤ k ∧ k ≤ 32)) := by
  unfold shape_good.f
  by_cases h : k ≥ 0
  · rw [if_pos h]; congr 1; rw [decide_eq_decide]; omega
  · rw [if_neg h, decide_eq_false (by omega)]
theorem split_ (k a : Nat) (hk : k ≤ 32) (ha : a ≤ k) : shape_split.f (k : Int) (a : Int) = some (((2 ^ a : Nat) : Int), ((2 ^ (k - a) : Nat) : Int)) := by
  unfold shape_split.f
  have e : wrap64 ((k : Int) - (a : Int)) = ((k - a : Nat) : Int) := by unfold wrap64; omega
  have h1 : 0 ≤ IntKind.u64.wrap (a : Int) := by rw [wrap_u _ (by omega) (by omega)]; omega
  have h2 : 0 ≤ IntKind.u64.wrap ((k - a : Nat) : Int) := by rw [wrap_u _ (by omega) (by omega)]; omega
  rw [if_pos h1, e, if_pos h2, shl_one a (by omega), shl_one (k - a) (by omega)]
def sh (k a : Nat) : S26 := ⟨((2 ^ a : Nat) : Int), ((2 ^ (k - a) : Nat) : Int)⟩
theorem splits_loop (k : Nat) (hk : k ≤ 32) (d : Nat) : ∀ a : Nat, a + d = k + 1 →
    Ev (fun r => shape_Splits.l0 r (k : Int) ((List.range a).map (sh k)) (a : Int)) ((List.range (k + 1)).map (sh k)) := by
  induction d with
  | zero =>
    intro a ha
    obtain rfl : a = k + 1 := ha
    refine Ev.step (f := fun _ => some ((List.range (k + 1)).map (sh k))) (fun r => ?_) (Ev.now _)
    simp only [shape_Splits.l0]
    rw [goodk_, decide_eq_true (by omega)]
    simp only [Option.bind_some, if_true]
    rw [if_neg (by omega)]
  | succ d ih =>
    intro a ha
    have ihx := ih (a + 1) (by omega)
    have e : wrap64 ((a : Int) + 1) = ((a + 1 : Nat) : Int) := by unfold wrap64; omega
    rw [List.range_succ, List.map_append, List.map_singleton] at ihx
    refine Ev.step (fun r => ?_) ihx
    simp only [shape_Splits.l0]
    rw [goodk_, decide_eq_true (by omega)]
    simp only [Option.bind_some, if_true]
    rw [if_pos (by omega), split_ k a hk (by omega)]
    simp only [Option.bind_some]
    rw [if_pos (by rw [List.length_map, List.length_range]; omega), e]
    rfl
theorem splits_ (k : Nat) (hk : k ≤ 32) : Ev (fun r => shape_Splits.f r (k : Int)) ((List.range (k + 1)).map (sh k)) :=
  Ev.congr (fun _ => rfl) (splits_loop k hk (k + 1) 0 (by omega))
theorem splits_head (r : Nat) (k i : Int) (l : List S26) : shape_Splits.l0 (r + 1) k l i = (shape_good.f k).bind fun t114 => (if t114 = true then (if i ≤ k then ((shape_split.f k i).bind fun bt115 => (if l.length < 8796093022208 then (shape_Splits.l0 r k (l ++ [(⟨bt115.1, bt115.2⟩ : S26)]) (wrap64 (i + 1))) else (none))) else (some l)) else (some l)) := by
  rw [shape_Splits.l0]
theorem goodk_no (k : Int) (h : ¬ (0 ≤ k ∧ k ≤ 32)) : shape_good.f k = some false := by
  rw [goodk_, decide_eq_false h]
theorem splits_no1 (k i : Int) (l : List S26) (h : ¬ (0 ≤ k ∧ k ≤ 32)) (r : Nat) : shape_Splits.l0 (r + 1) k l i = some l := by
  rw [splits_head, goodk_no k h, Option.bind_some, if_neg (by decide)]
theorem splits_no (k : Int) (h : ¬ (0 ≤ k ∧ k ≤ 32)) : Ev (fun r => shape_Splits.f r k) [] :=
  Ev.congr (fun _ => rfl) (Ev.step (f := fun _ => some ([] : List S26)) (splits_no1 k 0 [] h) (Ev.now _))
theorem even_ (k : Nat) (hk : k ≤ 32) : shape_Even.f (k : Int) = some (((2 ^ (k / 2) : Nat) : Int), ((2 ^ (k - k / 2) : Nat) : Int), 0) := by
  unfold shape_Even.f
  have e : wrap64 (Int.tdiv (k : Int) 2) = ((k / 2 : Nat) : Int) := by
    have : Int.tdiv (k : Int) 2 = ((k / 2 : Nat) : Int) := rfl
    rw [this]; unfold wrap64; omega
  rw [goodk_, decide_eq_true (by omega), Option.bind_some, if_pos rfl, e, split_ k (k / 2) hk (by omega), Option.bind_some]
theorem even_no (k : Int) (h : ¬ (0 ≤ k ∧ k ≤ 32)) : shape_Even.f k = some (0, 0, 1) := by
  unfold shape_Even.f
  rw [goodk_no k h, Option.bind_some, if_neg (by decide)]
theorem rd_sh (k a : Nat) (ha : a ≤ k) : rd_T26 ((List.range (k + 1)).map (sh k)) (a : Int) = sh k a := by
  unfold rd_T26
  have h : a < k + 1 := by omega
  simp [h]
theorem law_loop (k : Nat) (hk : k ≤ 32) (d : Nat) : ∀ a : Nat, a + d = k + 1 →
    Ev (fun r => abacistlaw06_ShapeSplits.l0 r (k : Int) ((List.range (k + 1)).map (sh k)) (a : Int)) true := by
  induction d with
  | zero =>
    intro a ha
    refine Ev.step (f := fun _ => some true) (fun r => ?_) (Ev.now _)
    simp only [abacistlaw06_ShapeSplits.l0]
    rw [if_neg (by omega)]
  | succ d ih =>
    intro a ha
    have ihx := ih (a + 1) (by omega)
    have hak : a ≤ k := by omega
    have e : wrap64 ((a : Int) + 1) = ((a + 1 : Nat) : Int) := by unfold wrap64; omega
    have hg : GoodS (sh k a).f0 (sh k a).f1 := ⟨a, k - a, by omega, ⟨by omega, rfl⟩, ⟨by omega, rfl⟩⟩
    have h1 : 0 ≤ IntKind.u64.wrap (a : Int) := by rw [wrap_u _ (by omega) (by omega)]; omega
    have h2 : 0 ≤ IntKind.u64.wrap (k : Int) := by rw [wrap_u _ (by omega) (by omega)]; omega
    have e2 : wrap64 ((sh k a).f0 * (sh k a).f1) = ((2 ^ k : Nat) : Int) := by
      have e3 : (sh k a).f0 * (sh k a).f1 = ((2 ^ k : Nat) : Int) := by
        rw [pow_split hak, Int.natCast_mul]; rfl
      have hp := pow32 hk
      rw [e3]
      generalize 2 ^ k = y at hp ⊢
      exact wrap_i _ (by omega) (by omega)
    refine Ev.step (f := fun r => (abacistref06_Good.f r (sh k a).f0 (sh k a).f1).bind fun t137 => (if t137 = true then (abacistlaw06_ShapeSplits.l0 r (k : Int) ((List.range (k + 1)).map (sh k)) ((a + 1 : Nat) : Int)) else (some false))) (fun r => ?_) ?_
    · simp only [abacistlaw06_ShapeSplits.l0]
      rw [if_pos (by omega), if_pos (by omega), if_pos (by rw [List.length_map, List.length_range]; omega), rd_sh k a hak, if_pos h1, if_pos h2, shl_one a (by omega), shl_one k hk, e2, e, if_pos rfl]
      simp only [if_pos (show (sh k a).f0 = ((2 ^ a : Nat) : Int) from rfl)]
    · exact Ev.bind (rgood_yes _ _ hg) (Ev_if rfl ihx)
theorem splits_j0 (k : Nat) (hk : k ≤ 32) : Ev (fun r => abacistlaw06_ShapeSplits.j0 r (k : Int) ((List.range (k + 1)).map (sh k)) 0 false ((2 ^ (k / 2) : Nat) : Int) ((2 ^ (k - k / 2) : Nat) : Int)) true := by
  have hl : (((List.range (k + 1)).map (sh k)).length : Int) = (k : Int) + 1 := by rw [List.length_map, List.length_range]; omega
  have e1 : wrap64 ((k : Int) + 1) = (k : Int) + 1 := by unfold wrap64; omega
  have e2 : wrap64 (Int.tdiv (k : Int) 2) = ((k / 2 : Nat) : Int) := by
    have : Int.tdiv (k : Int) 2 = ((k / 2 : Nat) : Int) := rfl
    rw [this]; unfold wrap64; omega
  have er := rd_sh k (k / 2) (by omega)
  have hj1 : Ev (fun r => abacistlaw06_ShapeSplits.j1 r (k : Int) ((List.range (k + 1)).map (sh k)) false) true := by
    refine Ev.step (fun r => ?_) (law_loop k hk (k + 1) 0 (by omega))
    simp only [abacistlaw06_ShapeSplits.j1]
    rw [if_neg (by decide)]
    rfl
  refine Ev.step (fun r => ?_) hj1
  simp only [abacistlaw06_ShapeSplits.j0]
  rw [if_neg (by decide), hl, e1, if_pos rfl, if_pos (by trivial), e2, if_pos (by omega), if_pos (by omega), er]
  have e5 : (!(((2 ^ (k / 2) : Nat) : Int) == (sh k (k / 2)).f0) || !(((2 ^ (k - k / 2) : Nat) : Int) == (sh k (k / 2)).f1)) = false := by
    unfold sh; simp only [BEq.rfl, Bool.not_true, Bool.or_self]
  rw [if_neg (by rw [e5]; decide)]
  by_cases c : ((2 ^ (k - k / 2) : Nat) : Int) = ((2 ^ (k / 2) : Nat) : Int)
  · rw [if_pos c]
  · rw [if_neg c]
    have e6 : k - k / 2 = k / 2 + 1 := by
      rcases (show k - k / 2 = k / 2 ∨ k - k / 2 = k / 2 + 1 by omega) with h | h
      · rw [h] at c; exact absurd rfl c
      · exact h
    have e7 : wrap64 (2 * ((2 ^ (k / 2) : Nat) : Int)) = ((2 ^ (k - k / 2) : Nat) : Int) := by
      have hp := pow32 (show k / 2 ≤ 32 by omega)
      rw [e6, Nat.pow_succ]
      generalize 2 ^ (k / 2) = y at *
      unfold wrap64; omega
    rw [e7, bne_self_eq_false]
theorem ShapeSplits : abacistlaw06_ShapeSplits.Pure := by
  intro n _
  refine Ev.rounds (g := fun k => abacistlaw06_ShapeSplits.f k n) ?_
  unfold abacistlaw06_ShapeSplits.f
  refine Ev.bind (Ev_eq sawake_) (Ev_if rfl ?_)
  by_cases h : 0 ≤ n ∧ n ≤ 32
  · obtain ⟨k, rfl⟩ := Int.eq_ofNat_of_zero_le h.1
    have hk : k ≤ 32 := by omega
    refine Ev.bind (splits_ k hk) (Ev.bind (Ev_eq (even_ k hk)) (Ev_ifn (by omega) ?_))
    rw [decide_eq_false (by omega)]
    exact splits_j0 k hk
  · refine Ev.bind (splits_no n h) (Ev.bind (Ev_eq (even_no n h)) ?_)
    have hj : Ev (fun r => abacistlaw06_ShapeSplits.j0 r n [] 1 true 0 0) true := by
      refine Ev.step (f := fun _ => some true) (fun r => ?_) (Ev.now _)
      simp only [abacistlaw06_ShapeSplits.j0]
      rw [if_pos trivial, if_pos (by rfl), if_pos (by trivial)]
      rfl
    by_cases c : n < 0
    · exact Ev_if c hj
    · refine Ev_ifn c ?_
      rw [decide_eq_true (by omega)]
      exact hj
theorem ShapeSplitsCalls_ (n : Int) (hn : (Lit.int .i64 n).wf = true) (w : World) (hT : TabOK w) :
    Calls Tryd.prog 3 #[.int .i64 n] w fun e w' => e = .returned (.bool true) ∧ Below w.heap.size w w' := by
  obtain ⟨k, h⟩ := ShapeSplits n hn
  exact abacistlaw06_ShapeSplits.calls k _ true w h hT
end Go.Proofs.YthppiphldaopnaaDoor.Pure
