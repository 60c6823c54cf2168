import Derived.Test.YthppiphldaopnaaDoorTilA
/-! Tiles: where each one lies, and which places lie in one. -/
namespace Go.Proofs.YthppiphldaopnaaDoor.Tiles
open Go.RowKit Go.Proofs.YthppiphldaopnaaDoor Go.Proofs.YthppiphldaopnaaDoor.Ext Go.Proofs.YthppiphldaopnaaDoor.PShape Go.Proofs.YthppiphldaopnaaDoor.PTil Go.Proofs.YthppiphldaopnaaDoor.Pure Go.Proofs.YthppiphldaopnaaDoorW.PrintWords Go.Proofs.YthppiphldaopnaaDoorW.PrintLast Go.Proofs.YthppiphldaopnaaDoorW.PrintMore
set_option linter.unusedVariables false
set_option linter.unusedSimpArgs false

/-- Which tile a place lies in. -/
def tix (C h w x y : Nat) : Nat := (x / h) * pt C w + y / w
/-- A tile, in numbers. -/
structure Tn (R C h w m : Nat) (t : S38) (a b r c : Nat) : Prop where
  eq : t = ⟨⟨(a : Int), (b : Int)⟩, (r : Int), (c : Int)⟩
  pos : 1 ≤ a ∧ 1 ≤ b
  le : a ≤ h ∧ b ≤ w
  fit : r + a ≤ R ∧ c + b ≤ C
  last : (a < h → r + a = R) ∧ (b < w → c + b = C)
  ix : ∀ x y, x < R → y < C → (tix C h w x y = m ↔ (r ≤ x ∧ x < r + a ∧ c ≤ y ∧ y < c + b))
theorem lt_pt {n h x : Nat} (hx : x < n) : x / h < pt n h := by
  unfold pt
  have := Nat.div_le_div_right (c := h) (show x ≤ n - 1 by omega)
  omega
theorem tix_lt {R C h w x y : Nat} (hx : x < R) (hy : y < C) : tix C h w x y < pt R h * pt C w := by
  have h1 := lt_pt (h := h) hx
  have h2 := lt_pt (h := w) hy
  unfold tix
  have : (x / h + 1) * pt C w ≤ pt R h * pt C w := Nat.mul_le_mul_right _ (by omega)
  rw [Nat.add_mul] at this
  omega
theorem div_is {x h i : Nat} (hh : 1 ≤ h) : x / h = i ↔ (i * h ≤ x ∧ x < i * h + h) := by
  constructor
  · rintro rfl
    exact ⟨Nat.div_mul_le_self _ _, by have := Nat.lt_div_mul_add (a := x) (b := h) (by omega); omega⟩
  · rintro ⟨h1, h2⟩
    refine Nat.div_eq_of_lt_le h1 ?_
    rw [Nat.add_mul]
    omega
theorem tn_of {R C h w m : Nat} (hR : 1 ≤ R) (hC : 1 ≤ C) (hh : 1 ≤ h) (hw : 1 ≤ w) (hm : m < pt R h * pt C w) : ∃ a b r c, Tn R C h w m (T R C h w (m / pt C w) (m % pt C w)) a b r c := by
  have hq : 1 ≤ pt C w := Nat.le_add_left 1 _
  have hi : m / pt C w < pt R h := (Nat.div_lt_iff_lt_mul (by omega)).2 hm
  have hj : m % pt C w < pt C w := Nat.mod_lt _ (by omega)
  have h1 := pt_mul hR hi
  have h2 := pt_mul hC hj
  have e := Nat.div_add_mod m (pt C w)
  generalize m / pt C w = i at *
  generalize m % pt C w = j at *
  refine ⟨min h (R - i * h), min w (C - j * w), i * h, j * w, rfl, by omega, by omega, by omega, by omega, fun x y hx hy => ?_⟩
  have hy2 := lt_pt (h := w) hy
  constructor
  · intro ht
    unfold tix at ht
    have h3 : x / h = i ∧ y / w = j := by
      have q1 : (x / h * pt C w + y / w) / pt C w = x / h := by rw [Nat.mul_comm, Nat.mul_add_div (by omega), Nat.div_eq_of_lt hy2, Nat.add_zero]
      have q2 : (x / h * pt C w + y / w) % pt C w = y / w := by rw [Nat.mul_comm, Nat.mul_add_mod, Nat.mod_eq_of_lt hy2]
      rw [ht, ← e] at q1 q2
      rw [Nat.mul_add_div (by omega), Nat.div_eq_of_lt hj, Nat.add_zero] at q1
      rw [Nat.mul_add_mod, Nat.mod_eq_of_lt hj] at q2
      exact ⟨q1.symm, q2.symm⟩
    have h4 := (div_is hh).1 h3.1
    have h5 := (div_is hw).1 h3.2
    omega
  · rintro ⟨q1, q2, q3, q4⟩
    have h3 : x / h = i := (div_is hh).2 (by omega)
    have h4 : y / w = j := (div_is hw).2 (by omega)
    unfold tix
    rw [h3, h4, ← e, Nat.mul_comm]
/-- Two tiles that stand one behind the other. -/
theorem tn_next {R C h w m : Nat} (hR : 1 ≤ R) (hC : 1 ≤ C) (hh : 1 ≤ h) (hw : 1 ≤ w) (hm : m + 1 < pt R h * pt C w) {a b r c a' b' r' c' : Nat} (h0 : T R C h w (m / pt C w) (m % pt C w) = ⟨⟨(a : Int), (b : Int)⟩, (r : Int), (c : Int)⟩)
    (h1 : T R C h w ((m + 1) / pt C w) ((m + 1) % pt C w) = ⟨⟨(a' : Int), (b' : Int)⟩, (r' : Int), (c' : Int)⟩) : r < r' ∨ (r = r' ∧ c < c') := by
  have hq : 1 ≤ pt C w := Nat.le_add_left 1 _
  unfold T at h0 h1
  simp only [S38.mk.injEq] at h0 h1
  obtain ⟨_, e1, e2⟩ := h0
  obtain ⟨_, e3, e4⟩ := h1
  have f1 : r = m / pt C w * h := by omega
  have f2 : c = m % pt C w * w := by omega
  have f3 : r' = (m + 1) / pt C w * h := by omega
  have f4 : c' = (m + 1) % pt C w * w := by omega
  have hj : m % pt C w < pt C w := Nat.mod_lt _ (by omega)
  have e := Nat.div_add_mod m (pt C w)
  clear e1 e2 e3 e4
  generalize m / pt C w = i at *
  generalize m % pt C w = j at *
  by_cases h2 : j + 1 < pt C w
  · have q1 : (m + 1) / pt C w = i := by rw [← e, Nat.add_assoc, Nat.mul_add_div (by omega), Nat.div_eq_of_lt h2, Nat.add_zero]
    have q2 : (m + 1) % pt C w = j + 1 := by rw [← e, Nat.add_assoc, Nat.mul_add_mod, Nat.mod_eq_of_lt h2]
    rw [q1] at f3
    rw [q2] at f4
    right
    rw [f1, f2, f3, f4, Nat.add_mul]
    omega
  · have h3 : j + 1 = pt C w := by omega
    have q1 : (m + 1) / pt C w = i + 1 := by rw [← e, Nat.add_assoc, h3, ← Nat.mul_succ, Nat.mul_div_cancel_left _ (by omega)]
    rw [q1] at f3
    left
    rw [f1, f3, Nat.add_mul]
    omega
/-- How often each place was met. -/
structure Cnt (R C : Nat) (D : Nat → Nat → Prop) (ms : List Int) : Prop where
  len : ms.length = 256
  one : ∀ x y, x < R → y < C → D x y → ms.getD (x * C + y) 0 = 1
  no : ∀ x y, x < R → y < C → ¬ D x y → ms.getD (x * C + y) 0 = 0
theorem Cnt.mono {R C : Nat} {D E : Nat → Nat → Prop} {ms : List Int} (h : Cnt R C D ms) (hd : ∀ x y, x < R → y < C → (D x y ↔ E x y)) : Cnt R C E ms :=
  ⟨h.len, fun x y hx hy he => h.one x y hx hy ((hd x y hx hy).2 he), fun x y hx hy he => h.no x y hx hy fun hh => he ((hd x y hx hy).1 hh)⟩
theorem place_inj' {C i j a b : Nat} (hj : j < C) (hb : b < C) (h : i * C + j = a * C + b) : i = a ∧ j = b := by
  have h1 : (i * C + j) % C = j := by rw [Nat.mul_comm, Nat.mul_add_mod, Nat.mod_eq_of_lt hj]
  have h2 : (a * C + b) % C = b := by rw [Nat.mul_comm, Nat.mul_add_mod, Nat.mod_eq_of_lt hb]
  have h3 : j = b := by rw [← h1, ← h2, h]
  subst h3
  exact ⟨Nat.eq_of_mul_eq_mul_right (by omega) (show i * C = a * C by omega), rfl⟩
theorem Cnt.put {R C : Nat} {D E : Nat → Nat → Prop} {ms : List Int} (h : Cnt R C D ms) {r c : Nat} (hc : c < C) (hlt : r * C + c < 256) (hn : ms.getD (r * C + c) 0 = 0) (he : ∀ x y, x < R → y < C → (E x y ↔ D x y ∨ (x = r ∧ y = c))) :
    Cnt R C E (ms.set (r * C + c) (ms.getD (r * C + c) 0 + 1)) := by
  have hl := h.len
  have hset : ∀ x y, x < R → y < C → (ms.set (r * C + c) (ms.getD (r * C + c) 0 + 1)).getD (x * C + y) 0 = if x = r ∧ y = c then 1 else ms.getD (x * C + y) 0 := by
    intro x y hx hy
    by_cases e : x = r ∧ y = c
    · obtain ⟨rfl, rfl⟩ := e
      rw [if_pos ⟨rfl, rfl⟩, hn]
      simp [List.getD, hl, hlt]
    · rw [if_neg e]
      have hne : r * C + c ≠ x * C + y := fun h => e (by have := place_inj' hc hy h; omega)
      simp [List.getD, List.getElem?_set, hne]
  refine ⟨by rw [List.length_set]; exact hl, fun x y hx hy hh => ?_, fun x y hx hy hh => ?_⟩
  · rw [hset x y hx hy]
    by_cases e : x = r ∧ y = c
    · rw [if_pos e]
    · rw [if_neg e]
      exact h.one x y hx hy (((he x y hx hy).1 hh).resolve_right e)
  · rw [hset x y hx hy]
    by_cases e : x = r ∧ y = c
    · exact absurd ((he x y hx hy).2 (.inr e)) hh
    · rw [if_neg e]
      exact h.no x y hx hy fun hd => hh ((he x y hx hy).2 (.inl hd))
end Go.Proofs.YthppiphldaopnaaDoor.Tiles
