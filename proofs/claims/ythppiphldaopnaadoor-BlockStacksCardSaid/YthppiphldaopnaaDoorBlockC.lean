import Derived.Test.YthppiphldaopnaaDoorBlockB
import Derived.Test.YthppiphldaopnaaDoorSameB
/-! Blocks: the document's answer, and what two turns make. -/
namespace Go.Proofs.YthppiphldaopnaaDoor.Obj
open Go.RowKit Go.Proofs.YthppiphldaopnaaDoor Go.Proofs.YthppiphldaopnaaDoor.Ext Go.Proofs.YthppiphldaopnaaDoor.PShape Go.Proofs.YthppiphldaopnaaDoor.PBlk Go.Proofs.YthppiphldaopnaaDoor.Pure Go.Proofs.YthppiphldaopnaaDoorW.PrintWords Go.Proofs.YthppiphldaopnaaDoorW.PrintLast Go.Proofs.YthppiphldaopnaaDoorW.PrintMore
set_option linter.unusedVariables false
set_option linter.unusedSimpArgs false

/-- A place of a row is some row and some column. -/
theorem place_of {R C k : Nat} (h : k < R * C) : ∃ i j, i < R ∧ j < C ∧ k = j * R + i := by
  have hR : 0 < R := by
    rcases Nat.eq_zero_or_pos R with h0 | h0
    · subst h0; simp at h
    · exact h0
  refine ⟨k % R, k / R, Nat.mod_lt _ hR, ?_, ?_⟩
  · rw [Nat.div_lt_iff_lt_mul hR, Nat.mul_comm]; exact h
  · have := Nat.div_add_mod k R
    rw [Nat.mul_comm] at this
    omega
theorem getD_ext {a b : List Int} (hl : a.length = b.length) (h : ∀ k, k < a.length → a.getD k 0 = b.getD k 0) : a = b := by
  refine List.ext_getElem hl fun k h1 h2 => ?_
  have := h k h1
  rwa [getD_lt _ _ h1, getD_lt _ _ h2] at this
theorem Cov.uniq {R C : Nat} {xs ys zs : List Int} (h : Cov R C xs ys (fun _ _ => True)) (k : Cov R C xs zs (fun _ _ => True)) : ys = zs := by
  refine getD_ext (h.len.trans k.len.symm) fun n hn => ?_
  rw [h.len] at hn
  obtain ⟨i, j, hi, hj, rfl⟩ := place_of hn
  rw [h.at_ i j hi hj trivial, k.at_ i j hi hj trivial]
theorem Cov.back {R C : Nat} {xs ys zs : List Int} (h : Cov R C xs ys (fun _ _ => True)) (k : Cov C R ys zs (fun _ _ => True)) (hl : xs.length = R * C) : zs = xs := by
  refine getD_ext (by rw [k.len, hl, Nat.mul_comm]) fun n hn => ?_
  rw [k.len] at hn
  obtain ⟨j, i, hj, hi, rfl⟩ := place_of hn
  rw [k.at_ j i hj hi trivial, h.at_ i j hi hj trivial]
/-- The document's loops. -/
theorem trans_cols (R C : Nat) (xs r : List Int) (i : Nat) (hi : i < R) (hC : 0 < C) (hl : xs.length = R * C) (hm : xs.length ≤ 1048576)
    (hnext : ∀ zs, Cov R C xs zs (fun a b => a < i + 1) → Ev (fun k => abacistref06_Transpose.l0 k xs zs ((i + 1 : Nat) : Int) (R : Int) (C : Int)) r) (d : Nat) :
    ∀ (j : Nat) (zs : List Int), j + d = C → Cov R C xs zs (fun a b => a < i ∨ (a = i ∧ b < j)) → Ev (fun k => abacistref06_Transpose.l1 k xs zs (i : Int) (j : Int) (R : Int) (C : Int)) r := by
  have hR : R ≤ 1048576 := by
    have : R * 1 ≤ R * C := Nat.mul_le_mul_left _ hC
    omega
  have hC2 : C ≤ 1048576 := by
    have : 1 * C ≤ R * C := Nat.mul_le_mul_right _ (by omega)
    omega
  induction d with
  | zero =>
    intro j zs hj hc
    obtain rfl : j = C := by omega
    have q1 : ¬ (j : Int) < (j : Int) := by omega
    have hR3 : R ≤ 9223372036854775807 := by omega
    have hs := hnext zs (hc.mono' (fun a b ha hb h => by omega))
    have n1 := next_i i R hi hR3
    refine Ev.step (f := fun k => abacistref06_Transpose.l0 k xs zs ((i + 1 : Nat) : Int) (R : Int) (j : Int)) (fun k => ?_) hs
    simp only [abacistref06_Transpose.l1]
    rw [if_neg q1, n1]
  | succ d ih =>
    intro j zs hj hc
    have hj2 : j < C := by omega
    have p1 := place_lt' hi hj2
    have p2 := place_lt hi hj2
    rw [← hl] at p1
    have q1 : (j : Int) < (C : Int) := Int.ofNat_lt.2 hj2
    have q2 : (0 : Int) ≤ ((i * C + j : Nat) : Int) := Int.natCast_nonneg _
    have q3 : ((i * C + j : Nat) : Int) < (xs.length : Int) := Int.ofNat_lt.2 p1
    have q4 : (0 : Int) ≤ ((j * R + i : Nat) : Int) := Int.natCast_nonneg _
    have q5 : ((j * R + i : Nat) : Int) < (zs.length : Int) := Int.ofNat_lt.2 (hc.len.symm ▸ p2)
    have hC3 : C ≤ 9223372036854775807 := by omega
    have hs := ih (j + 1) _ (by omega) ((hc.put i j hi hj2).mono' (fun a b ha hb h => by omega))
    have n1 := next_i j C hj2 hC3
    have e1 := widx i C j xs.length p1 hm
    have e2 := widx j R i (R * C) p2 (hl ▸ hm)
    refine Ev.step (f := fun k => abacistref06_Transpose.l1 k xs (zs.set (j * R + i) (xs.getD (i * C + j) 0)) (i : Int) ((j + 1 : Nat) : Int) (R : Int) (C : Int)) (fun k => ?_) hs
    simp only [abacistref06_Transpose.l1]
    rw [if_pos q1, e1, e2, if_pos q2, if_pos q3, if_pos q4, if_pos q5, rd_nat, Int.toNat_natCast, n1]
theorem trans_rows (R C : Nat) (xs ys : List Int) (hC : 0 < C) (hl : xs.length = R * C) (hm : xs.length ≤ 1048576) (hy : Cov R C xs ys (fun _ _ => True)) (d : Nat) :
    ∀ (i : Nat) (zs : List Int), i + d = R → Cov R C xs zs (fun a b => a < i) → Ev (fun k => abacistref06_Transpose.l0 k xs zs (i : Int) (R : Int) (C : Int)) ys := by
  induction d with
  | zero =>
    intro i zs hi hc
    obtain rfl : i = R := by omega
    have e : zs = ys := (hc.mono' (E := fun _ _ => True) (fun a b ha hb _ => ha)).uniq hy
    subst e
    have q1 : ¬ (i : Int) < (i : Int) := by omega
    refine Ev.step (f := fun _ => some zs) (fun k => ?_) (Ev.now _)
    simp only [abacistref06_Transpose.l0]
    rw [if_neg q1]
  | succ d ih =>
    intro i zs hi hc
    have hi2 : i < R := by omega
    have q1 : (i : Int) < (R : Int) := Int.ofNat_lt.2 hi2
    refine Ev.step (f := fun k => abacistref06_Transpose.l1 k xs zs (i : Int) ((0 : Nat) : Int) (R : Int) (C : Int)) (fun k => ?_)
      (trans_cols R C xs ys i hi2 hC hl hm (fun zs hz => ih (i + 1) zs (by omega) hz) C 0 zs (by omega) (hc.mono' (fun a b ha hb h => by omega)))
    simp only [abacistref06_Transpose.l0]
    rw [if_pos q1]
    rfl
theorem trans_ (R C : Nat) (xs ys : List Int) (hC : 0 < C) (hl : xs.length = R * C) (hm : xs.length ≤ 1048576) (h : Cov R C xs ys (fun _ _ => True)) : Ev (fun k => abacistref06_Transpose.f k xs (R : Int) (C : Int)) ys := by
  have q1 : ([] : List Int).length + xs.length < 17592186044416 := by simp only [List.length_nil]; omega
  have h0 := trans_rows R C xs ys hC hl hm h R 0 xs (by omega) ⟨hl, fun a b ha hb h => by omega⟩
  refine Ev.congr (fun k => ?_) h0
  show (if ([] : List Int).length + xs.length < 17592186044416 then abacistref06_Transpose.l0 k xs ([] ++ xs) 0 (R : Int) (C : Int) else none) = _
  rw [if_pos q1]
  rfl
end Go.Proofs.YthppiphldaopnaaDoor.Obj
