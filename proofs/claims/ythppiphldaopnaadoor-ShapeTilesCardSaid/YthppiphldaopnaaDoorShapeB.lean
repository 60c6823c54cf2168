import Derived.Laws.BitsAllLaws
import Derived.OpenShut
import Derived.Test.YthppiphldaopnaaDoorPShapex2
import Derived.Test.YthppiphldaopnaaDoorPShapex4
import Derived.Test.YthppiphldaopnaaDoorWNEv
import Derived.Test.YthppiphldaopnaaDoorShapeA
set_option linter.unusedVariables false
set_option linter.unusedSimpArgs false
namespace Go.Proofs.YthppiphldaopnaaDoor.Pure
open Go.RowKit Go.Proofs.YthppiphldaopnaaDoor Go.Proofs.YthppiphldaopnaaDoor.PShape Go.Proofs.YthppiphldaopnaaDoor.Ext Go.Proofs.YthppiphldaopnaaDoorW.PrintWords Go.Proofs.YthppiphldaopnaaDoorW.PrintLast Go.Proofs.YthppiphldaopnaaDoorW.PrintMore

theorem inside_ (i n : Int) : shape_inside.f i n = some (decide (0 ≤ i ∧ i < n)) := by
  unfold shape_inside.f
  by_cases h : i ≥ 0
  · rw [if_pos h]; congr 1; rw [decide_eq_decide]; omega
  · rw [if_neg h, decide_eq_false (by omega)]
theorem at_no (r c i j : Int) (h : ¬ (GoodS r c ∧ 0 ≤ i ∧ i < r ∧ 0 ≤ j ∧ j < c)) : shape_At.f r c i j = some (0, 2) := by
  unfold shape_At.f
  rcases good_cases r c with g | g
  · rw [good_yes r c g, inside_, inside_]
    simp only [Option.bind_some, if_true]
    by_cases h1 : 0 ≤ i ∧ i < r
    · rw [decide_eq_true h1]
      simp only [if_true, Option.bind_some]
      rw [decide_eq_false (fun h2 => h ⟨g, h1.1, h1.2, h2.1, h2.2⟩)]
      simp only [Bool.false_eq_true, if_false]
    · rw [decide_eq_false h1]
      simp only [Bool.false_eq_true, if_false]
  · rw [good_no r c g]
    simp only [Option.bind_some, Bool.false_eq_true, if_false]
theorem at_yes (r c i j : Int) (g : GoodS r c) (h1 : 0 ≤ i ∧ i < r) (h2 : 0 ≤ j ∧ j < c) : shape_At.f r c i j = some (wrap64 (wrap64 (i * c) + j), 0) := by
  unfold shape_At.f
  rw [good_yes r c g, inside_, inside_]
  simp only [Option.bind_some, if_true]
  rw [decide_eq_true h1, decide_eq_true h2]
  simp only [Option.bind_some, if_true]
theorem pw_two : Pw 2 1 := ⟨by omega, rfl⟩
theorem pw_four : Pw 4 2 := ⟨by omega, rfl⟩
theorem sawake_ : abacistlaw06_awake.f = some true := by
  unfold abacistlaw06_awake.f
  rw [at_yes 2 4 1 2 ⟨1, 2, by omega, pw_two, pw_four⟩ (by omega) (by omega)]
  have e : wrap64 (wrap64 (1 * 4) + 2) = 6 := by unfold wrap64; omega
  rw [e]
  rfl
theorem good_bounds {r c : Int} (h : GoodS r c) : ∃ x y : Nat, r = (x : Int) ∧ c = (y : Int) ∧ 0 < x ∧ 0 < y ∧ x * y ≤ 4294967296 := by
  obtain ⟨a, b, hab, h2, h3⟩ := h
  exact ⟨2 ^ a, 2 ^ b, h2.2, h3.2, Nat.two_pow_pos a, Nat.two_pow_pos b, by rw [← Nat.pow_add]; exact pow32 hab⟩
theorem size_yes (r c : Int) (h : GoodS r c) : shape_Size.f r c = some (r * c) := by
  obtain ⟨x, y, rfl, rfl, hx, hy, hxy⟩ := good_bounds h
  unfold shape_Size.f
  rw [good_yes _ _ h]
  simp only [Option.bind_some, if_true]
  rw [← Int.natCast_mul, wrap_i _ (by omega) (by omega)]
theorem size_no (r c : Int) (h : ¬ GoodS r c) : shape_Size.f r c = some 0 := by
  unfold shape_Size.f
  rw [good_no _ _ h]
  simp only [Option.bind_some, Bool.false_eq_true, if_false]
end Go.Proofs.YthppiphldaopnaaDoor.Pure
