/- The printed part of: any row turned about, by bits and by digits, is as the document says; turned about twice it is the same. -/
import Derived.Laws.BitsAllLaws
import Derived.OpenShut
import Derived.Test.YthppiphldaopnaaDoorPRevx3
import Derived.Test.YthppiphldaopnaaDoorWNEv
--NEEDS abacistlaw05_RevRows
import Derived.Test.YthppiphldaopnaaDoorFitsA
import Derived.Test.YthppiphldaopnaaDoorRevNums
import Derived.Test.YthppiphldaopnaaDoorRevLists
set_option linter.unusedVariables false
set_option linter.unusedSimpArgs false
namespace Go.Proofs.YthppiphldaopnaaDoor.Pure
open Go.RowKit Go.Proofs.YthppiphldaopnaaDoor Go.Proofs.YthppiphldaopnaaDoor.PRev Go.Proofs.YthppiphldaopnaaDoor.PRevA Go.Proofs.YthppiphldaopnaaDoor.Ext Go.Proofs.YthppiphldaopnaaDoorW.PrintWords Go.Proofs.YthppiphldaopnaaDoorW.PrintLast Go.Proofs.YthppiphldaopnaaDoorW.PrintMore

theorem evEq {α β : Type} {o : Option α} {x : α} {f : Nat → α → Option β} {r : β} (h : o = some x) (e : Ev (fun n => f n x) r) : Ev (fun n => o.bind (f n)) r := Ev.congr (fun n => by show o.bind (f n) = f n x; rw [h]; rfl) e
theorem pturn_yes (l : List Int) (k : Nat) (h : Pw (l.length : Int) k) (hl : l.length ≤ 256) : rev_Turn.f l = some (turnL (Rv.D 2 k) l, 0) := by
  have hlen : l.length = 2 ^ k := by have := h.2; omega
  unfold rev_Turn.f
  rw [h.2, fits_yes k h.1, Option.bind_some, if_pos rfl, if_pos (by omega)]
  rw [mvs_all _ (Rv.D 2 k) l (by rw [hlen]; exact D_inv2 k) (fun i hi => turned_ k i h.1 (by omega))]
  rfl
theorem pturn_no (l : List Int) (h : ∀ k, ¬ Pw (l.length : Int) k) : rev_Turn.f l = some (([] : List Int), 4) := by
  unfold rev_Turn.f
  rw [fits_no _ h, Option.bind_some, if_neg (by decide)]
theorem D_inv (b m : Nat) (hb : 1 < b) : Inv2 (Rv.D b m) (b ^ m) := fun i hi => ⟨Rv.D_lt b (by omega) m i, Rv.D_D b hb m i hi⟩
theorem pturnby_yes (l : List Int) (r m : Nat) (hr : 1 ≤ r) (hr8 : r ≤ 8) (h : Pw (l.length : Int) (m * r)) (hl : l.length ≤ 256) : rev_TurnBy.f l (r : Int) = some (turnL (Rv.D (2 ^ r) m) l, 0) := by
  have hlen : l.length = 2 ^ (m * r) := by have := h.2; omega
  have hm : m ≤ m * r := Nat.le_mul_of_pos_right _ hr
  have h32 := h.1
  have hb : 1 < 2 ^ r := Nat.one_lt_two_pow (by omega)
  unfold rev_TurnBy.f
  rw [h.2, fits_yes _ h.1, Option.bind_some, if_pos rfl, goes_yes r m hr hr8, Option.bind_some, if_pos rfl, if_pos (by omega)]
  rw [mvs_all _ (Rv.D (2 ^ r) m) l (by rw [hlen, Nat.mul_comm, Nat.pow_mul]; exact D_inv _ m hb) (fun i hi => pdigits_ r m i hr hr8 h32 (by omega) 40 (by omega))]
  rfl
theorem pturnby_no1 (l : List Int) (r : Int) (h : ∀ k, ¬ Pw (l.length : Int) k) : rev_TurnBy.f l r = some (([] : List Int), 4) := by
  unfold rev_TurnBy.f
  rw [fits_no _ h, Option.bind_some, if_neg (by decide)]
theorem pturnby_no2 (l : List Int) (r : Int) (k : Nat) (h : Pw (l.length : Int) k) (hg : ¬ (1 ≤ r ∧ r ≤ 8 ∧ Int.tmod (k : Int) r = 0)) : rev_TurnBy.f l r = some (([] : List Int), 1) := by
  unfold rev_TurnBy.f
  rw [h.2, fits_yes k h.1, Option.bind_some, if_pos rfl, goes_no _ _ hg, Option.bind_some, if_neg (by decide)]
theorem rdig_ev (r m i : Nat) (hr : 1 ≤ r) (hr8 : r ≤ 8) (hm : m * r ≤ 32) (hi : i < 4294967296) : Ev (fun n => abacistref05_Digits.f n (i : Int) ((m * r : Nat) : Int) (r : Int)) ((Rv.D (2 ^ r) m i : Nat) : Int) := ⟨r + m + 3, fun kk h => rdigits_ r m i hr hr8 hm hi kk h⟩
theorem rturn_ev (l : List Int) (r m : Nat) (hr : 1 ≤ r) (hr8 : r ≤ 8) (h : Pw (l.length : Int) (m * r)) (hl : l.length ≤ 256) : Ev (fun n => abacistref05_Turn.f n l ((m * r : Nat) : Int) (r : Int)) (turnL (Rv.D (2 ^ r) m) l) := by
  have hlen : l.length = 2 ^ (m * r) := by have := h.2; omega
  have hb : 1 < 2 ^ r := Nat.one_lt_two_pow (by omega)
  exact rturn_ (Rv.D (2 ^ r) m) l _ _ hl (by rw [hlen, Nat.mul_comm, Nat.pow_mul]; exact D_inv _ m hb) (fun i hi => rdig_ev r m i hr hr8 h.1 (by omega))
theorem RevRows (l : List Int) (r : Int) : Ev (fun k => abacistlaw05_RevRows.f k l r) true := by
  unfold abacistlaw05_RevRows.f
  refine evEq awake_ (Ev_if rfl ?_)
  by_cases hl : l.length ≤ 256
  · refine Ev_ifn (by omega) ?_
    rcases pw_cases (l.length : Int) with ⟨k, hk⟩ | hk
    · refine Ev.bind (rfits_yes _ k hk) ?_
      refine evEq (pturn_yes l k hk hl) ?_
      have hlen : l.length = 2 ^ k := by have := hk.2; omega
      have hk32 := hk.1
      have back : rev_Turn.f (turnL (Rv.D 2 k) l) = some (l, 0) := by
        rw [pturn_yes _ k (by rw [turnL_len]; exact hk) (by rw [turnL_len]; exact hl), turnL_turnL _ _ (by rw [hlen]; exact D_inv2 k)]
      have t1 := rturn_ev l 1 k (by omega) (by omega) (by rw [Nat.mul_one]; exact hk) hl
      rw [Nat.mul_one] at t1
      have s1 := same_yes (turnL (Rv.D 2 k) l) (turnL (Rv.D (2 ^ 1) k) l) (by rw [turnL_len]; omega) rfl
      have s2 := same_yes l l (by omega) rfl
      have fin : ∀ (b : List Int) (e : Int), rev_TurnBy.f l r = some (b, e) → Ev (fun k_ => abacistlaw05_RevRows.j0 k_ l r (k : Int) b e false) true → Ev (fun k_ => (rev_TurnBy.f l r).bind fun bt186 => (if (k : Int) < 0 then (if (0 : Int) = 4 then (if bt186.2 = 4 then (if ((turnL (Rv.D 2 k) l).length : Int) = 0 then (some ((bt186.1.length : Int) == 0)) else (some false)) else (some false)) else (some false)) else ((rev_Turn.f (turnL (Rv.D 2 k) l)).bind fun bt190 => (if (0 : Int) = 0 then (if bt190.2 = 0 then ((abacistref05_Turn.f k_ l (k : Int) 1).bind fun t194 => ((abacistref04_Same.f k_ (turnL (Rv.D 2 k) l) t194).bind fun t197 => (if t197 = true then ((abacistref04_Same.f k_ bt190.1 l).bind fun t198 => (abacistlaw05_RevRows.j0 k_ l r (k : Int) bt186.1 bt186.2 (!t198))) else (abacistlaw05_RevRows.j0 k_ l r (k : Int) bt186.1 bt186.2 true)))) else (abacistlaw05_RevRows.j0 k_ l r (k : Int) bt186.1 bt186.2 true)) else (abacistlaw05_RevRows.j0 k_ l r (k : Int) bt186.1 bt186.2 true))))) true := by
        intro b e hb h
        refine evEq hb (Ev_ifn (by omega) (evEq back (Ev_if rfl (Ev_if rfl ?_))))
        exact Ev.bind t1 (Ev.bind s1 (Ev_if rfl (Ev.bind s2 h)))
      by_cases hg : 1 ≤ r ∧ r ≤ 8 ∧ Int.tmod (k : Int) r = 0
      · obtain ⟨g1, g2, g3⟩ := hg
        obtain ⟨q, rfl⟩ := Int.eq_ofNat_of_zero_le (show 0 ≤ r by omega)
        obtain ⟨m, rfl⟩ : ∃ m, k = m * q := ⟨k / q, by
          rw [← Int.ofNat_tmod] at g3
          exact (Nat.div_mul_cancel (Nat.dvd_of_mod_eq_zero (by omega))).symm⟩
        refine fin _ _ (pturnby_yes l q m (by omega) (by omega) hk hl) ?_
        have t2 := rturn_ev l q m (by omega) (by omega) hk hl
        have s3 := same_yes (turnL (Rv.D (2 ^ q) m) l) (turnL (Rv.D (2 ^ q) m) l) (by rw [turnL_len]; omega) rfl
        refine Ev.step (f := fun k_ => abacistlaw05_RevRows.j1 k_ l (q : Int) ((m * q : Nat) : Int) (turnL (Rv.D (2 ^ q) m) l) 0 false) (fun k_ => ?_) ?_
        · simp only [abacistlaw05_RevRows.j0]
          rw [if_neg (by decide), if_neg (by omega), if_neg (by omega), if_neg (by omega), g3]
          rfl
        · refine Ev.step (f := fun k_ => (abacistref05_Turn.f k_ l ((m * q : Nat) : Int) (q : Int)).bind fun t199 => (abacistref04_Same.f k_ (turnL (Rv.D (2 ^ q) m) l) t199).bind fun t202 => some t202) (fun k_ => ?_) ?_
          · simp only [abacistlaw05_RevRows.j1]
            rw [if_neg (by decide), if_pos trivial]
          · exact Ev.bind t2 (Ev.bind s3 (Ev.now _))
      · refine fin _ _ (pturnby_no2 l r k hk hg) ?_
        have hj1 : Ev (fun k_ => abacistlaw05_RevRows.j1 k_ l r (k : Int) ([] : List Int) 1 true) true := by
          refine Ev.step (f := fun _ => some true) (fun k_ => ?_) (Ev.now _)
          simp only [abacistlaw05_RevRows.j1]
          rw [if_pos trivial, if_pos trivial]
          rfl
        refine Ev.step (f := fun k_ => abacistlaw05_RevRows.j1 k_ l r (k : Int) ([] : List Int) 1 true) (fun k_ => ?_) hj1
        simp only [abacistlaw05_RevRows.j0]
        rw [if_neg (by decide)]
        by_cases c1 : r < 1
        · rw [if_pos c1]
        · by_cases c2 : r > 8
          · rw [if_neg c1, if_pos c2]
          · rw [if_neg c1, if_neg c2, if_neg (by omega)]
            have e : ((Int.tmod (k : Int) r) != 0) = true := by
              rw [bne_iff_ne]; exact fun h => hg ⟨by omega, by omega, h⟩
            rw [e]
    · refine Ev.bind (rfits_no _ hk) (evEq (pturn_no l hk) (evEq (pturnby_no1 l r hk) (Ev_if (by omega) (Ev_if rfl (Ev_if rfl (Ev_if rfl (Ev.now _)))))))
  · exact Ev_if (by omega) (Ev.now _)
theorem RevRowsP : abacistlaw05_RevRows.Pure := fun l0 a1 _ _ _ _ => (RevRows l0 a1).rounds
end Go.Proofs.YthppiphldaopnaaDoor.Pure
