import Derived.Laws.BitsAllLaws
import Derived.OpenShut
import Derived.Test.YthppiphldaopnaaDoorPBlkx1
import Derived.Test.YthppiphldaopnaaDoorWNEv
import Derived.Test.YthppiphldaopnaaDoorNums
--NEEDS abacistref04_Same
set_option linter.unusedVariables false
set_option linter.unusedSimpArgs false
namespace Go.Proofs.YthppiphldaopnaaDoor.Pure
open Go.RowKit Go.Proofs.YthppiphldaopnaaDoor Go.Proofs.YthppiphldaopnaaDoor.PBlk Go.Proofs.YthppiphldaopnaaDoor.PShape Go.Proofs.YthppiphldaopnaaDoor.Ext Go.Proofs.YthppiphldaopnaaDoorW.PrintWords Go.Proofs.YthppiphldaopnaaDoorW.PrintLast Go.Proofs.YthppiphldaopnaaDoorW.PrintMore

/-! ### rows -/
theorem rd_nat (l : List Int) (i : Nat) : rd l (i : Int) = l.getD i 0 := by unfold rd; rw [Int.toNat_natCast]
theorem next_i (i n : Nat) (h : i < n) (hn : n ≤ 9223372036854775807) : wrap64 ((i : Int) + 1) = ((i + 1 : Nat) : Int) := by unfold wrap64; omega
theorem getD_lt (l : List Int) (i : Nat) (h : i < l.length) : l.getD i 0 = l[i] := by simp [List.getD, h]
/-- The loop of Same. -/
theorem same_loop (a b : List Int) (hl : a.length = b.length) (hn : a.length ≤ 9223372036854775807) (d : Nat) : ∀ i : Nat, i + d = a.length → (∀ j, j < i → a.getD j 0 = b.getD j 0) →
    Ev (fun k => abacistref04_Same.l0 k a b (i : Int)) (decide (a = b)) := by
  induction d with
  | zero =>
    intro i hi hj
    refine Ev.step (f := fun _ => some true) (fun k => ?_) ?_
    · simp only [abacistref04_Same.l0]
      rw [if_neg (by omega)]
    · have e : a = b := List.ext_getElem hl fun j h1 h2 => by
        have := hj j (by omega)
        rw [getD_lt _ _ h1, getD_lt _ _ h2] at this
        exact this
      rw [decide_eq_true e]
      exact Ev.now _
  | succ d ih =>
    intro i hi hj
    have e1 := next_i i a.length (by omega) hn
    by_cases c : a.getD i 0 = b.getD i 0
    · refine Ev.step (f := fun k => abacistref04_Same.l0 k a b ((i + 1 : Nat) : Int)) (fun k => ?_) (ih (i + 1) (by omega) fun j hj2 => ?_)
      · simp only [abacistref04_Same.l0]
        rw [if_pos (by omega), if_pos (by omega), if_pos (by omega), rd_nat, rd_nat, if_pos c, e1]
      · by_cases c2 : j = i
        · subst c2; exact c
        · exact hj j (by omega)
    · refine Ev.step (f := fun _ => some false) (fun k => ?_) ?_
      · simp only [abacistref04_Same.l0]
        rw [if_pos (by omega), if_pos (by omega), if_pos (by omega), rd_nat, rd_nat, if_neg c]
      · rw [decide_eq_false (fun h => c (by rw [h]))]
        exact Ev.now _
theorem same_ (a b : List Int) (hn : a.length ≤ 9223372036854775807) : Ev (fun k => abacistref04_Same.f k a b) (decide (a = b)) := by
  unfold abacistref04_Same.f
  by_cases c : a.length = b.length
  · exact Ev_if (by omega) (same_loop a b c hn a.length 0 (by omega) fun j h => by omega)
  · refine Ev_ifn (by omega) ?_
    rw [decide_eq_false (fun h => c (by rw [h]))]
    exact Ev.now _
theorem same_yes (a b : List Int) (hn : a.length ≤ 9223372036854775807) (h : a = b) : Ev (fun k => abacistref04_Same.f k a b) true := by
  have := same_ a b hn
  rwa [decide_eq_true h] at this

end Go.Proofs.YthppiphldaopnaaDoor.Pure
