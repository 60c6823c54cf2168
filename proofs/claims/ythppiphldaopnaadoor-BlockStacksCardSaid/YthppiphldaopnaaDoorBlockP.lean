import Derived.Test.YthppiphldaopnaaDoorBlockI
/-! Blocks: what the laws share. -/
namespace Go.Proofs.YthppiphldaopnaaDoor.Obj
open Go.RowKit Go.Proofs.YthppiphldaopnaaDoor Go.Proofs.YthppiphldaopnaaDoor.Ext Go.Proofs.YthppiphldaopnaaDoor.PShape Go.Proofs.YthppiphldaopnaaDoor.PBlk Go.Proofs.YthppiphldaopnaaDoor.Pure Go.Proofs.YthppiphldaopnaaDoorW.PrintWords Go.Proofs.YthppiphldaopnaaDoorW.PrintLast Go.Proofs.YthppiphldaopnaaDoorW.PrintMore
set_option linter.unusedVariables false
set_option linter.unusedSimpArgs false
set_option maxRecDepth 100000

theorem inside_yes {R C tr tc r0 c0 : Int} (hg : GoodS R C) (h : Lies R C tr tc r0 c0) : Ev (fun k => abacistlaw12_inside.f k R C tr tc r0 c0) true := by
  obtain ⟨h1, h2, h3, h4, h5, h6, h7⟩ := h
  have q1 := good_pos hg
  have q2 := good_pos h1
  have e1 : wrap64 (R - tr) = R - tr := by unfold wrap64; omega
  have e2 : wrap64 (C - tc) = C - tc := by unfold wrap64; omega
  unfold abacistlaw12_inside.f
  refine Ev.bind (rgood_yes tr tc h1) ?_
  refine Ev_if rfl (Ev_if h2 (Ev_if h3 (Ev_if h4 (Ev_if h5 (Ev_if ?_ (Ev_eq ?_))))))
  · rw [e1]; exact h6
  · rw [e2, decide_eq_true h7]
theorem inside_no {R C tr tc r0 c0 : Int} (hg : GoodS R C) (h : ¬ Lies R C tr tc r0 c0) : Ev (fun k => abacistlaw12_inside.f k R C tr tc r0 c0) false := by
  unfold abacistlaw12_inside.f
  by_cases h1 : GoodS tr tc
  · have q1 := good_pos hg
    have q2 := good_pos h1
    have e1 : wrap64 (R - tr) = R - tr := by unfold wrap64; omega
    have e2 : wrap64 (C - tc) = C - tc := by unfold wrap64; omega
    refine Ev.bind (rgood_yes tr tc h1) (Ev_if rfl ?_)
    by_cases h2 : 0 ≤ r0
    · refine Ev_if h2 ?_
      by_cases h3 : 0 ≤ c0
      · refine Ev_if h3 ?_
        by_cases h4 : tr ≤ R
        · refine Ev_if h4 ?_
          by_cases h5 : tc ≤ C
          · refine Ev_if h5 ?_
            by_cases h6 : r0 ≤ R - tr
            · refine Ev_if (by rw [e1]; exact h6) (Ev_eq ?_)
              rw [e2, decide_eq_false (fun h7 => h ⟨h1, h2, h3, h4, h5, h6, h7⟩)]
            · exact Ev_ifn (by rw [e1]; exact h6) (Ev_eq rfl)
          · exact Ev_ifn h5 (Ev_eq rfl)
        · exact Ev_ifn h4 (Ev_eq rfl)
      · exact Ev_ifn h3 (Ev_eq rfl)
    · exact Ev_ifn h2 (Ev_eq rfl)
  · exact Ev.bind (rgood_no tr tc h1) (Ev_ifn (by decide) (Ev_eq rfl))
theorem Til.nums2 {R C tr tc r0 c0 n i j : Nat} (ht : Til R C tr tc r0 c0 n) (hi : i < tr) (hj : j < tc) :
    ∃ z y y2 k m : Nat, (r0 + i) * C + c0 + j = k ∧ i * tc + j = m ∧ k < n ∧ m < tr * tc ∧ (i : Int) * (tc : Int) + (j : Int) = (m : Int) ∧
      wrap64 ((r0 : Int) + (i : Int)) = (z : Int) ∧ wrap64 ((z : Int) * (C : Int)) = (y : Int) ∧ wrap64 ((y : Int) + (c0 : Int)) = (y2 : Int) ∧ wrap64 ((y2 : Int) + (j : Int)) = (k : Int) := by
  have hA := ht.at_ hi
  have hB := ht.in_ hi
  have hs := ht.small
  have hx := ht.max
  have hr1 := ht.r
  have hm : (r0 + i) * C ≤ 1048576 := by omega
  exact ⟨r0 + i, (r0 + i) * C, (r0 + i) * C + c0, (r0 + i) * C + c0 + j, i * tc + j, rfl, rfl, by omega, by omega, by rw [Int.natCast_add, Int.natCast_mul], wsum r0 i (by omega), wmul (r0 + i) C (by omega), wsum _ _ (by omega), wsum _ _ (by omega)⟩
theorem In.at_ad {w : World} {ad : Addr} {c : Nat} {l : List Int} (h : In w (some ad) c l) (i : Nat) (hi : i < l.length) : w.cell? (ad.add i) = some (.int .u64 (l.getD i 0)) := by
  obtain ⟨a, e, h⟩ := C_at h.r i hi
  injection e with e
  rw [e]; exact h
theorem same_call (k : Nat) (A : Option Addr) (c : Nat) (xs : List Int) (B : Option Addr) (d : Nat) (ys : List Int) (n m : Nat) (b : Bool) (w : World) (hn : n = xs.length) (hm : m = ys.length) (h1 : Kd.C (Kd.int .u64) w A xs.length xs) (h2 : xs.length ≤ c) (h3 : Kd.C (Kd.int .u64) w B ys.length ys) (h4 : ys.length ≤ d)
    (h : abacistref04_Same.f k xs ys = some b) : Calls Tryd.prog 26 #[.slice A n c, .slice B m d] w fun e w' => e = .returned (.bool b) ∧ Drawn0 w w' := by
  subst hn hm
  exact abacistref04_Same.calls k A c xs B d ys b w h1 h2 h3 h4 h
end Go.Proofs.YthppiphldaopnaaDoor.Obj
