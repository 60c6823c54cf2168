/- The printed part of: which shapes are right, their sizes, and which place a row and a column have, and the other way about. -/
import Derived.Laws.BitsAllLaws
import Derived.OpenShut
import Derived.Test.YthppiphldaopnaaDoorPShapex2
import Derived.Test.YthppiphldaopnaaDoorPShapex4
import Derived.Test.YthppiphldaopnaaDoorPShapex5
import Derived.Test.YthppiphldaopnaaDoorWNEv
import Derived.Test.YthppiphldaopnaaDoorShapeB
set_option linter.unusedVariables false
set_option linter.unusedSimpArgs false
namespace Go.Proofs.YthppiphldaopnaaDoor.Pure
open Go.RowKit Go.Proofs.YthppiphldaopnaaDoor Go.Proofs.YthppiphldaopnaaDoor.PShape Go.Proofs.YthppiphldaopnaaDoor.Ext Go.Proofs.YthppiphldaopnaaDoorW.PrintWords Go.Proofs.YthppiphldaopnaaDoorW.PrintLast Go.Proofs.YthppiphldaopnaaDoorW.PrintMore

theorem where_no (r c i : Int) (h : ¬ (GoodS r c ∧ 0 ≤ i ∧ i < r * c)) : shape_Where.f r c i = some (0, 0, 2) := by
  unfold shape_Where.f
  rcases good_cases r c with g | g
  · rw [size_yes r c g, Option.bind_some, inside_, decide_eq_false (fun h1 => h ⟨g, h1.1, h1.2⟩)]
    simp only [Option.bind_some, Bool.false_eq_true, if_false]
  · rw [size_no r c g, Option.bind_some, inside_, decide_eq_false (by omega)]
    simp only [Option.bind_some, Bool.false_eq_true, if_false]
theorem where_yes (r c : Int) (i : Nat) (g : GoodS r c) (hi : (i : Int) < r * c) : shape_Where.f r c (i : Int) = some (wrap64 (Int.tdiv (i : Int) c), Int.tmod (i : Int) c, 0) := by
  obtain ⟨a, b, hab, h2, h3⟩ := g
  have hs := size_yes r c ⟨a, b, hab, h2, h3⟩
  have hb := pow32 h3.1
  have hlt : i < 4294967296 := by
    obtain ⟨x, y, hx, hy, _, _, hxy⟩ := good_bounds ⟨a, b, hab, h2, h3⟩
    rw [hx, hy, ← Int.natCast_mul] at hi
    omega
  unfold shape_Where.f
  rw [hs, Option.bind_some, inside_, decide_eq_true (by omega)]
  simp only [Option.bind_some, if_true]
  have hc := h3.2
  subst hc
  have hp0 := Nat.two_pow_pos b
  have hb32 := h3.1
  have e1 : wrap64 (((2 ^ b : Nat) : Int) - 1) = ((2 ^ b - 1 : Nat) : Int) := by
    generalize 2 ^ b = y at *
    unfold wrap64; omega
  have e3 := ctz_pow b (by omega)
  have e4 : bits_TrailingZeros.f (IntKind.u64.wrap ((2 ^ b : Nat) : Int)) = some (b : Int) := by
    rw [wrap_u _ (by omega) (by omega)]
    unfold bits_TrailingZeros.f
    rw [if_pos (by omega), Int.toNat_natCast, e3]
  rw [e4]
  simp only [Option.bind_some]
  rw [wrap_u (b : Int) (by omega) (by omega), if_pos (by omega), shr_i _ _ (by omega), e1, and_i _ _ (by omega) (by omega), Nat.and_two_pow_sub_one_eq_mod]
  have d1 : Int.tdiv (i : Int) ((2 ^ b : Nat) : Int) = ((i / 2 ^ b : Nat) : Int) := rfl
  have d2 : Int.tmod (i : Int) ((2 ^ b : Nat) : Int) = ((i % 2 ^ b : Nat) : Int) := rfl
  have d3 : i / 2 ^ b ≤ i := Nat.div_le_self _ _
  rw [d1, d2, wrap_i _ (Int.le_trans (by omega) (Int.natCast_nonneg _)) (by have := Int.ofNat_le.2 d3; omega)]
theorem turned_ (r c : Int) : shape_Turned.f r c = some (c, r) := rfl
/-- The law's end: what is told of a place's row and column. -/
def EndOK (i size a b e : Int) (c : Int) : Prop := (¬ (0 ≤ i ∧ i < size) ∧ a = 0 ∧ b = 0 ∧ e = 2) ∨ (0 ≤ i ∧ i < size ∧ ¬ c = 0 ∧ a = wrap64 (Int.tdiv i c) ∧ b = Int.tmod i c ∧ e = 0)
theorem j3_ (r c i size a b e : Int) (h : EndOK i size a b e c) : Ev (fun k => abacistlaw06_ShapePlaces.j3 k i size a b e false r c) true := by
  refine Ev.step (f := fun _ => some true) (fun k => ?_) (Ev.now _)
  simp only [abacistlaw06_ShapePlaces.j3]
  rw [if_neg (by decide)]
  rcases h with ⟨h1, rfl, rfl, rfl⟩ | ⟨h1, h2, h3, rfl, rfl, rfl⟩
  · by_cases c1 : i < 0
    · rw [if_pos c1, if_pos rfl, if_pos rfl]; rfl
    · rw [if_neg c1, if_pos (by omega), if_pos rfl, if_pos rfl]; rfl
  · rw [if_neg (by omega), if_neg (by omega), if_pos rfl, if_neg h3, if_pos rfl, BEq.rfl]
theorem j4_ (r c i size a b e : Int) (h : EndOK i size a b e c) : Ev (fun k => abacistlaw06_ShapePlaces.j4 k i size a b e false r c) true := by
  refine Ev.step (f := fun _ => some true) (fun k => ?_) (Ev.now _)
  simp only [abacistlaw06_ShapePlaces.j4]
  rw [if_neg (by decide)]
  rcases h with ⟨h1, rfl, rfl, rfl⟩ | ⟨h1, h2, h3, rfl, rfl, rfl⟩
  · by_cases c1 : i < 0
    · rw [if_pos c1, if_pos rfl, if_pos rfl]; rfl
    · rw [if_neg c1, if_pos (by omega), if_pos rfl, if_pos rfl]; rfl
  · rw [if_neg (by omega), if_neg (by omega), if_pos rfl, if_neg h3, if_pos rfl, BEq.rfl]
theorem places_ (r c i j n : Int) (good : Bool) (size : Int) (hg : shape_Good.f r c = some good) (hs : shape_Size.f r c = some size)
    (hgood : good = true → GoodS r c) (a b e : Int) (hw : shape_Where.f r c n = some (a, b, e)) (hend : EndOK n size a b e c)
    (hat : (good = true ∧ 0 ≤ i ∧ i < r ∧ 0 ≤ j ∧ j < c ∧ shape_At.f r c i j = some (wrap64 (wrap64 (i * c) + j), 0)) ∨ (¬ (good = true ∧ 0 ≤ i ∧ i < r ∧ 0 ≤ j ∧ j < c) ∧ shape_At.f r c i j = some (0, 2))) :
    Ev (fun k => abacistlaw06_ShapePlaces.j0 k i j n good size r c) true := by
  have key : ∀ m e', (shape_At.f r c i j = some (m, e')) → Ev (fun k => abacistlaw06_ShapePlaces.j1 k i j n good size m e' a b e false r c) true → Ev (fun k => abacistlaw06_ShapePlaces.j0 k i j n good size r c) true := by
    intro m e' hm h1
    refine Ev.step (fun k => ?_) h1
    simp only [abacistlaw06_ShapePlaces.j0]
    rw [hm, hw, hg, hs, turned_]
    simp only [Option.bind_some, bne_self_eq_false, Bool.false_eq_true, if_false, if_true, BEq.rfl, Bool.not_true, Bool.or_self]
  rcases hat with ⟨h1, h2, h3, h4, h5, h6⟩ | ⟨h1, h6⟩
  · refine key _ _ h6 (Ev.step (f := fun k => abacistlaw06_ShapePlaces.j2 k i j n size (wrap64 (wrap64 (i * c) + j)) 0 a b e false r c) (fun k => ?_) ?_)
    · simp only [abacistlaw06_ShapePlaces.j1]
      rw [if_neg (by decide), if_pos h1, if_neg (by omega), if_neg (by omega), if_neg (by omega), decide_eq_false (by omega)]
    · refine Ev.step (f := fun k => abacistlaw06_ShapePlaces.j4 k n size a b e false r c) (fun k => ?_) (j4_ r c n size a b e hend)
      simp only [abacistlaw06_ShapePlaces.j2]
      rw [if_neg (by decide), if_pos trivial, bne_self_eq_false]
  · refine key _ _ h6 (Ev.step (f := fun k => abacistlaw06_ShapePlaces.j2 k i j n size 0 2 a b e true r c) (fun k => ?_) ?_)
    · simp only [abacistlaw06_ShapePlaces.j1]
      rw [if_neg (by decide)]
      by_cases c0 : good = true
      · rw [if_pos c0]
        by_cases c1 : i < 0
        · rw [if_pos c1]
        · by_cases c2 : i ≥ r
          · rw [if_neg c1, if_pos c2]
          · by_cases c3 : j < 0
            · rw [if_neg c1, if_neg c2, if_pos c3]
            · rw [if_neg c1, if_neg c2, if_neg c3, decide_eq_true (Int.not_lt.mp fun c4 => h1 ⟨c0, by omega, by omega, by omega, c4⟩)]
      · rw [if_neg c0]
    · refine Ev.step (f := fun k => abacistlaw06_ShapePlaces.j3 k n size a b e false r c) (fun k => ?_) (j3_ r c n size a b e hend)
      simp only [abacistlaw06_ShapePlaces.j2]
      rw [if_pos trivial, if_pos trivial, bne_self_eq_false]
theorem ShapePlaces (r c i j n : Int) : Ev (fun k => abacistlaw06_ShapePlaces.f k r c i j n) true := by
  unfold abacistlaw06_ShapePlaces.f
  refine Ev.bind (Ev_eq sawake_) (Ev_if rfl ?_)
  rcases good_cases r c with g | g
  · obtain ⟨x, y, hx, hy, hx0, hy0, hxy⟩ := good_bounds g
    have hw64 : wrap64 (r * c) = r * c := by rw [hx, hy, ← Int.natCast_mul, wrap_i _ (by omega) (by omega)]
    refine Ev.bind (rgood_yes r c g) (Ev_if rfl ?_)
    rw [hw64]
    have hat : ((true = true) ∧ 0 ≤ i ∧ i < r ∧ 0 ≤ j ∧ j < c ∧ shape_At.f r c i j = some (wrap64 (wrap64 (i * c) + j), 0)) ∨ (¬ ((true = true) ∧ 0 ≤ i ∧ i < r ∧ 0 ≤ j ∧ j < c) ∧ shape_At.f r c i j = some (0, 2)) := by
      by_cases h : 0 ≤ i ∧ i < r ∧ 0 ≤ j ∧ j < c
      · exact .inl ⟨rfl, h.1, h.2.1, h.2.2.1, h.2.2.2, at_yes r c i j g ⟨h.1, h.2.1⟩ ⟨h.2.2.1, h.2.2.2⟩⟩
      · exact .inr ⟨fun h2 => h h2.2, at_no r c i j fun h2 => h h2.2⟩
    by_cases hn : 0 ≤ n ∧ n < r * c
    · obtain ⟨m, rfl⟩ := Int.eq_ofNat_of_zero_le hn.1
      exact places_ r c i j _ true _ (good_yes r c g) (size_yes r c g) (fun _ => g) _ _ _ (where_yes r c m g hn.2) (.inr ⟨hn.1, hn.2, by omega, rfl, rfl, rfl⟩) hat
    · exact places_ r c i j n true _ (good_yes r c g) (size_yes r c g) (fun _ => g) _ _ _ (where_no r c n fun h => hn h.2) (.inl ⟨hn, rfl, rfl, rfl⟩) hat
  · refine Ev.bind (rgood_no r c g) (Ev_ifn (by decide) ?_)
    exact places_ r c i j n false 0 (good_no r c g) (size_no r c g) (fun h => by cases h) _ _ _ (where_no r c n fun h => g h.1) (.inl ⟨by omega, rfl, rfl, rfl⟩) (.inr ⟨fun h => (by cases h.1), at_no r c i j fun h => g h.1⟩)
theorem ShapePlacesCalls_ (r c i j n : Int) (w : World) (hT : TabOK w) :
    Calls Tryd.prog 5 #[.agg #[.int .i64 r, .int .i64 c], .int .i64 i, .int .i64 j, .int .i64 n] w fun e w' => e = .returned (.bool true) ∧ Below w.heap.size w w' := by
  obtain ⟨k, h⟩ := (ShapePlaces r c i j n).rounds
  exact abacistlaw06_ShapePlaces.calls k _ _ _ _ _ true w h hT
end Go.Proofs.YthppiphldaopnaaDoor.Pure
