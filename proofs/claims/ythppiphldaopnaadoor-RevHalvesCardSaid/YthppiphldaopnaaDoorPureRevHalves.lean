/- The printed part of: even and odd parts are woven to the row; to turn about a row is to turn about both, one behind the other. -/
import Derived.Laws.BitsAllLaws
import Derived.OpenShut
import Derived.Test.YthppiphldaopnaaDoorPRevx2
import Derived.Test.YthppiphldaopnaaDoorWNEv
--NEEDS abacistlaw05_RevHalves
import Derived.Test.YthppiphldaopnaaDoorPureRevRows
set_option linter.unusedVariables false
set_option linter.unusedSimpArgs false
namespace Go.Proofs.YthppiphldaopnaaDoor.Pure
open Go.RowKit Go.Proofs.YthppiphldaopnaaDoor Go.Proofs.YthppiphldaopnaaDoor.PRev Go.Proofs.YthppiphldaopnaaDoor.PRevA Go.Proofs.YthppiphldaopnaaDoor.Ext Go.Proofs.YthppiphldaopnaaDoorW.PrintWords Go.Proofs.YthppiphldaopnaaDoorW.PrintLast Go.Proofs.YthppiphldaopnaaDoorW.PrintMore

theorem pw_half (l : List Int) (k : Nat) (h : Pw (l.length : Int) (k + 1)) : Pw ((evens l l.length).length : Int) k ∧ Pw ((odds l l.length).length : Int) k := by
  have hlen : l.length = 2 ^ (k + 1) := by have := h.2; omega
  have hp : 2 ^ (k + 1) = 2 * 2 ^ k := by rw [Nat.pow_succ, Nat.mul_comm]
  have h32 := h.1
  rw [evens_len, odds_len]
  exact ⟨⟨by omega, by rw [show (l.length + 1) / 2 = 2 ^ k by omega]⟩, ⟨by omega, by rw [show l.length / 2 = 2 ^ k by omega]⟩⟩
theorem halves_j4 (l x : List Int) (h : Ev (fun k => abacistlaw05_RevHalves.j4 k (evens l l.length) (odds l l.length) x false) true) (b : Bool) : Ev (fun k => abacistlaw05_RevHalves.j4 k (evens l l.length) (odds l l.length) x b) true := by
  cases b with
  | false => exact h
  | true =>
    refine Ev.step (f := fun _ => some true) (fun k => ?_) (Ev.now _)
    simp only [abacistlaw05_RevHalves.j4]
    rw [if_pos trivial]
theorem halves_true (a b x : List Int) : Ev (fun k => abacistlaw05_RevHalves.j4 k a b x true) true := by
  refine Ev.step (f := fun _ => some true) (fun k => ?_) (Ev.now _)
  simp only [abacistlaw05_RevHalves.j4]
  rw [if_pos trivial]
theorem halves_j3 (l : List Int) (hl : l.length ≤ 256) : Ev (fun k => abacistlaw05_RevHalves.j3 k l (evens l l.length) (odds l l.length)) true := by
  refine Ev.step (f := fun k => (rev_Turn.f l).bind fun bt149 => (if bt149.2 = 0 then (abacistlaw05_RevHalves.j4 k (evens l l.length) (odds l l.length) bt149.1 (decide ((l.length : Int) < 2))) else (abacistlaw05_RevHalves.j4 k (evens l l.length) (odds l l.length) bt149.1 true))) (fun k => by simp only [abacistlaw05_RevHalves.j3]) ?_
  rcases pw_cases (l.length : Int) with ⟨k, hk⟩ | hk
  · refine evEq (pturn_yes l k hk hl) (Ev_if rfl ?_)
    have hlen : l.length = 2 ^ k := by have := hk.2; omega
    cases k with
    | zero =>
      rw [decide_eq_true (by omega)]
      exact halves_true _ _ _
    | succ k =>
      have hpos := Nat.two_pow_pos k
      have hp : 2 ^ (k + 1) = 2 * 2 ^ k := by rw [Nat.pow_succ, Nat.mul_comm]
      rw [decide_eq_false (by omega)]
      obtain ⟨p1, p2⟩ := pw_half l k hk
      have he := evens_len l l.length
      have ho := odds_len l l.length
      have t1 := pturn_yes (evens l l.length) k p1 (by omega)
      have t2 := pturn_yes (odds l l.length) k p2 (by omega)
      have s1 := same_yes (turnL (Rv.D 2 (k + 1)) l) (([] ++ turnL (Rv.D 2 k) (evens l l.length)) ++ turnL (Rv.D 2 k) (odds l l.length)) (by rw [turnL_len]; omega) (by rw [List.nil_append]; exact turn_halves k l hlen)
      refine Ev.step (f := fun k_ => (rev_Turn.f (evens l l.length)).bind fun bt153 => ((rev_Turn.f (odds l l.length)).bind fun bt157 => (if bt153.2 = 0 then (if bt157.2 = 0 then ((some (([] : List Int) : List Int)).bind fun y161 => (if y161.length + bt153.1.length < 17592186044416 then ((some (y161 ++ bt153.1 : List Int)).bind fun y164 => (if y164.length + bt157.1.length < 17592186044416 then ((abacistref04_Same.f k_ (turnL (Rv.D 2 (k + 1)) l) (y164 ++ bt157.1)).bind fun t170 => (some t170)) else (none))) else (none))) else (some false)) else (some false)))) (fun k_ => ?_) ?_
      · simp only [abacistlaw05_RevHalves.j4]
        rw [if_neg (by decide)]
      · refine evEq t1 (evEq t2 (Ev_if rfl (Ev_if rfl ?_)))
        refine evEq rfl (Ev_if (by rw [turnL_len, List.length_nil]; omega) ?_)
        refine evEq rfl (Ev_if (by rw [List.nil_append, turnL_len, turnL_len]; omega) ?_)
        exact Ev.bind s1 (Ev.now _)
  · refine evEq (pturn_no l hk) (Ev_ifn (by omega) ?_)
    exact halves_true _ _ _
theorem RevHalves (l o : List Int) : Ev (fun k => abacistlaw05_RevHalves.f k l o) true := by
  unfold abacistlaw05_RevHalves.f
  refine evEq awake_ (Ev_if rfl ?_)
  have hj0 : Ev (fun k => abacistlaw05_RevHalves.j0 k l o true) true := by
    refine Ev.step (f := fun _ => some true) (fun k => ?_) (Ev.now _)
    simp only [abacistlaw05_RevHalves.j0]
    rw [if_pos trivial]
  by_cases hl : l.length ≤ 256
  · refine Ev_ifn (by omega) ?_
    by_cases ho : o.length ≤ 256
    · rw [decide_eq_false (by omega)]
      have hle := evens_len l l.length
      have hlo := odds_len l l.length
      have w1 := weave_yes (evens l l.length) (odds l l.length) (by omega) (by omega) (by omega)
      rw [show (evens l l.length).length + (odds l l.length).length = l.length by omega, woven_parts] at w1
      refine Ev.step (f := fun k => (rev_Even.f k l).bind fun bt126 => ((rev_Weave.f k bt126.1 bt126.2).bind fun bt132 => (if bt132.2 = 0 then ((abacistref04_Same.f k bt132.1 l).bind fun t136 => (if t136 = true then (abacistlaw05_RevHalves.j1 k l o bt126.1 bt126.2 ((wrap64 ((bt126.1.length : Int) - (bt126.2.length : Int))) != ((l.length : Int) % 2))) else (abacistlaw05_RevHalves.j1 k l o bt126.1 bt126.2 true))) else (abacistlaw05_RevHalves.j1 k l o bt126.1 bt126.2 true)))) (fun k => ?_) ?_
      · simp only [abacistlaw05_RevHalves.j0]
        rw [if_neg (by decide)]
      · refine Ev.bind (even_ l (by omega)) (Ev.bind w1 (Ev_if rfl (Ev.bind (same_yes l l (by omega) rfl) (Ev_if rfl ?_))))
        have e1 : wrap64 (((evens l l.length).length : Int) - ((odds l l.length).length : Int)) = (l.length : Int) % 2 := by rw [wrap_i _ (by omega) (by omega)]; omega
        rw [e1, bne_self_eq_false]
        by_cases c : o.length ≤ l.length ∧ l.length ≤ o.length + 1
        · have w2 := weave_yes l o c.1 c.2 (by omega)
          have e2 : wrap64 ((l.length : Int) - (o.length : Int)) = (l.length : Int) - (o.length : Int) := wrap_i _ (by omega) (by omega)
          refine Ev.step (f := fun k => (rev_Weave.f k l o).bind fun bt137 => (if (l.length : Int) < (o.length : Int) then (abacistlaw05_RevHalves.j2 k l o (evens l l.length) (odds l l.length) bt137.1 bt137.2 true) else (abacistlaw05_RevHalves.j2 k l o (evens l l.length) (odds l l.length) bt137.1 bt137.2 (decide ((wrap64 ((l.length : Int) - (o.length : Int))) > 1))))) (fun k => ?_) ?_
          · simp only [abacistlaw05_RevHalves.j1]
            rw [if_neg (by decide)]
          · refine Ev.bind w2 (Ev_ifn (by omega) ?_)
            rw [e2, decide_eq_false (by omega)]
            have ev2 := even_ (woven l o (l.length + o.length)) (by rw [woven_len]; omega)
            rw [woven_len, evens_woven l o c.1 c.2, odds_woven l o c.1 c.2] at ev2
            refine Ev.step (f := fun k => (rev_Even.f k (woven l o (l.length + o.length))).bind fun bt141 => (if (0 : Int) = 0 then ((abacistref04_Same.f k bt141.1 l).bind fun t147 => (if t147 = true then ((abacistref04_Same.f k bt141.2 o).bind fun t148 => (if t148 = true then (abacistlaw05_RevHalves.j3 k l (evens l l.length) (odds l l.length)) else (some false))) else (some false))) else (some false))) (fun k => ?_) ?_
            · simp only [abacistlaw05_RevHalves.j2]
              rw [if_neg (by decide)]
            · exact Ev.bind ev2 (Ev_if rfl (Ev.bind (same_yes l l (by omega) rfl) (Ev_if rfl (Ev.bind (same_yes o o (by omega) rfl) (Ev_if rfl (halves_j3 l hl))))))
        · have w2 := weave_no l o (by omega) (by omega) (by omega)
          have hj2 : Ev (fun k => abacistlaw05_RevHalves.j2 k l o (evens l l.length) (odds l l.length) ([] : List Int) 19 true) true := by
            refine Ev.step (f := fun k => abacistlaw05_RevHalves.j3 k l (evens l l.length) (odds l l.length)) (fun k => ?_) (halves_j3 l hl)
            simp only [abacistlaw05_RevHalves.j2]
            rw [if_pos trivial, if_pos trivial, if_pos (by rfl)]
          have e2 : wrap64 ((l.length : Int) - (o.length : Int)) = (l.length : Int) - (o.length : Int) := wrap_i _ (by omega) (by omega)
          refine Ev.step (f := fun k => (rev_Weave.f k l o).bind fun bt137 => (if (l.length : Int) < (o.length : Int) then (abacistlaw05_RevHalves.j2 k l o (evens l l.length) (odds l l.length) bt137.1 bt137.2 true) else (abacistlaw05_RevHalves.j2 k l o (evens l l.length) (odds l l.length) bt137.1 bt137.2 (decide ((wrap64 ((l.length : Int) - (o.length : Int))) > 1))))) (fun k => ?_) ?_
          · simp only [abacistlaw05_RevHalves.j1]
            rw [if_neg (by decide)]
          · refine Ev.bind w2 ?_
            by_cases c2 : l.length < o.length
            · exact Ev_if (by omega) hj2
            · refine Ev_ifn (by omega) ?_
              rw [e2, decide_eq_true (by omega)]
              exact hj2
    · rw [decide_eq_true (by omega)]
      exact hj0
  · exact Ev_if (by omega) hj0
theorem RevHalvesP : abacistlaw05_RevHalves.Pure := fun l0 l1 _ _ _ _ _ _ => (RevHalves l0 l1).rounds
end Go.Proofs.YthppiphldaopnaaDoor.Pure
