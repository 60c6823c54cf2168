import Derived.Laws.BitsAllLaws
import Derived.OpenShut
import Derived.Test.YtmmgiolhfekplaaPShowx1
import Derived.Test.YtmmgiolhfekplaaWNEv
--NEEDS show_Diff show_Same slices_Equal_uint64_uint64 abacistlaw39_awake abacistref04_Same
import Derived.Test.YtmmgiolhfekplaaSameA
import Derived.Test.YtmmgiolhfekplaaPureShowHex
set_option linter.unusedVariables false
set_option linter.unusedSimpArgs false
namespace Go.Proofs.Ytmmgiolhfekplaa.Pure
open Go.RowKit Go.Proofs.Ytmmgiolhfekplaa Go.Proofs.Ytmmgiolhfekplaa.PShow Go.Proofs.Ytmmgiolhfekplaa.Ext Go.Proofs.YtmmgiolhfekplaaW.PrintWords Go.Proofs.YtmmgiolhfekplaaW.PrintLast Go.Proofs.YtmmgiolhfekplaaW.PrintMore

theorem equal_loop (a b : List Int) (hl : a.length = b.length) (hn : a.length ≤ 9223372036854775807) (d : Nat) : ∀ i : Nat, i + d = a.length → (∀ j, j < i → a.getD j 0 = b.getD j 0) →
    Ev (fun k => slices_Equal_uint64_uint64.l0 k a b (a.length : Int) (i : Int)) (decide (a = b)) := by
  induction d with
  | zero =>
    intro i hi hj
    refine Ev.step (f := fun _ => some true) (fun k => ?_) ?_
    · simp only [slices_Equal_uint64_uint64.l0]
      rw [if_neg (by omega)]
    · have e : a = b := List.ext_getElem hl fun j h1 h2 => by
        have := hj j (by omega)
        rw [getD_lt _ _ h1, getD_lt _ _ h2] at this
        exact this
      rw [decide_eq_true e]
      exact Ev.now _
  | succ d ih =>
    intro i hi hj
    have e1 := next_i i a.length (by omega) hn
    by_cases c : a.getD i 0 = b.getD i 0
    · refine Ev.step (f := fun k => slices_Equal_uint64_uint64.l0 k a b (a.length : Int) ((i + 1 : Nat) : Int)) (fun k => ?_) (ih (i + 1) (by omega) fun j hj2 => ?_)
      · simp only [slices_Equal_uint64_uint64.l0]
        rw [if_pos (by omega), if_pos (by omega), if_pos (by omega), if_pos (by omega), rd_nat, rd_nat, if_pos c, e1]
      · by_cases c2 : j = i
        · subst c2; exact c
        · exact hj j (by omega)
    · refine Ev.step (f := fun _ => some false) (fun k => ?_) ?_
      · simp only [slices_Equal_uint64_uint64.l0]
        rw [if_pos (by omega), if_pos (by omega), if_pos (by omega), if_pos (by omega), rd_nat, rd_nat, if_neg c]
      · rw [decide_eq_false (fun h => c (by rw [h]))]
        exact Ev.now _
theorem equal_ (a b : List Int) (hn : a.length ≤ 9223372036854775807) : Ev (fun k => slices_Equal_uint64_uint64.f k a b) (decide (a = b)) := by
  unfold slices_Equal_uint64_uint64.f
  by_cases c : a.length = b.length
  · exact Ev_if (by omega) (equal_loop a b c hn a.length 0 (by omega) fun j h => by omega)
  · refine Ev_ifn (by omega) ?_
    rw [decide_eq_false (fun h => c (by rw [h]))]
    exact Ev.now _
theorem rdL_at (l : List (List Int)) (i : Nat) (x : List Int) (h : l[i]? = some x) : rd_L1 l (i : Int) = x := by
  unfold rd_L1
  simp [h]
theorem psame_loop (l : List (List Int)) (z : List Int) (h0 : l[0]? = some z) (hl : l.length ≤ 100) (hz : ∀ x ∈ l, x.length ≤ 9223372036854775807) (d : Nat) : ∀ i : Nat, i + d = l.length → (∀ j x, j < i → l[j]? = some x → x = z) →
    Ev (fun k => show_Same.l0 k l l (l.length : Int) (i : Int)) (decide (∀ x ∈ l, x = z)) := by
  induction d with
  | zero =>
    intro i hi hj
    refine Ev.step (f := fun _ => some true) (fun k => ?_) ?_
    · simp only [show_Same.l0]
      rw [if_neg (by omega)]
    · rw [decide_eq_true (fun x hx => by
        obtain ⟨j, hj2, rfl⟩ := List.getElem_of_mem hx
        exact hj j _ (by omega) (List.getElem?_eq_getElem hj2))]
      exact Ev.now _
  | succ d ih =>
    intro i hi hj
    have hlt : i < l.length := by omega
    have e1 := next_i i l.length hlt (by omega)
    have hx := List.getElem?_eq_getElem hlt
    have hm : l[i] ∈ l := List.getElem_mem hlt
    refine Ev.step (f := fun k => (slices_Equal_uint64_uint64.f k l[i] z).bind fun t105 => (if t105 = true then (show_Same.l0 k l l (l.length : Int) ((i + 1 : Nat) : Int)) else (some false))) (fun k => ?_) ?_
    · simp only [show_Same.l0]
      rw [if_pos (by omega), if_pos (by omega), if_pos (by omega), if_pos (by omega), rdL_at l i _ hx, show rd_L1 l (0 : Int) = z from rdL_at l 0 z h0, e1]
    · refine Ev.bind (equal_ l[i] z (hz _ hm)) ?_
      by_cases c : l[i] = z
      · refine Ev_if (by rw [decide_eq_true c]) (ih (i + 1) (by omega) fun j x hj2 hx2 => ?_)
        by_cases c2 : j = i
        · subst c2
          rw [hx] at hx2
          rw [← Option.some.inj hx2]; exact c
        · exact hj j x (by omega) hx2
      · refine Ev_ifn (by rw [decide_eq_false c]; decide) ?_
        rw [decide_eq_false (fun h => c (h _ hm))]
        exact Ev.now _
theorem psame_ (l : List (List Int)) (z : List Int) (h0 : l[0]? = some z) (hl : l.length ≤ 100) (hz : ∀ x ∈ l, x.length ≤ 9223372036854775807) : Ev (fun k => show_Same.f k l) (decide (∀ x ∈ l, x = z)) :=
  psame_loop l z h0 hl hz l.length 0 (by omega) fun j x h => by omega
theorem psame2 (a b : List Int) (ha : a.length ≤ 60) (hb : b.length ≤ 60) : Ev (fun k => show_Same.f k [a, b]) (decide (a = b)) := by
  have h := psame_ [a, b] a rfl (by simp) (by intro x hx; simp at hx; rcases hx with rfl | rfl <;> omega)
  have e : decide (∀ x ∈ [a, b], x = a) = decide (a = b) := by
    congr 1; simp; exact eq_comm
  rwa [e] at h
theorem psame3 (a : List Int) (ha : a.length ≤ 60) : Ev (fun k => show_Same.f k [a, a, a]) true := by
  have h := psame_ [a, a, a] a rfl (by simp) (by intro x hx; simp at hx; subst hx; omega)
  have e : decide (∀ x ∈ [a, a, a], x = a) = true := by simp
  rwa [e] at h
theorem psame3' (a b : List Int) (ha : a.length ≤ 60) (hb : b.length ≤ 60) : Ev (fun k => show_Same.f k [a, b, a]) (decide (a = b)) := by
  have h := psame_ [a, b, a] a rfl (by simp) (by intro x hx; simp only [List.mem_cons, List.not_mem_nil, or_false] at hx; rcases hx with rfl | rfl | rfl <;> omega)
  have e : decide (∀ x ∈ [a, b, a], x = a) = decide (a = b) := by
    congr 1; simp; exact eq_comm
  rwa [e] at h
/-- Where both differ, of the first n places. -/
def dfs (a b : List Int) : Nat → List S32
  | 0 => []
  | n + 1 => if a.getD n 0 = b.getD n 0 then dfs a b n else dfs a b n ++ [⟨(n : Int), a.getD n 0, b.getD n 0⟩]
theorem dfs_len (a b : List Int) : ∀ n, (dfs a b n).length ≤ n
  | 0 => Nat.le_refl _
  | n + 1 => by
    have ih := dfs_len a b n
    unfold dfs
    split
    · omega
    · simp; omega
theorem dfs_pre (a b : List Int) (n : Nat) : ∀ d, ∃ r, dfs a b (n + d) = dfs a b n ++ r
  | 0 => ⟨[], by simp⟩
  | d + 1 => by
    obtain ⟨r, hr⟩ := dfs_pre a b n d
    show ∃ r, (if a.getD (n + d) 0 = b.getD (n + d) 0 then dfs a b (n + d) else dfs a b (n + d) ++ [⟨((n + d : Nat) : Int), a.getD (n + d) 0, b.getD (n + d) 0⟩]) = _
    split
    · exact ⟨r, hr⟩
    · exact ⟨r ++ [_], by rw [hr, List.append_assoc]⟩
theorem diff_loop (a b : List Int) (m : Nat) (hl : a.length = b.length) (hn : a.length ≤ 60) (d : Nat) : ∀ i : Nat, i + d = a.length →
    Ev (fun k => show_Diff.l0 k b (m : Int) ((dfs a b i).take m) a (a.length : Int) (i : Int)) ((dfs a b a.length).take m, 0) := by
  induction d with
  | zero =>
    intro i hi
    obtain rfl : i = a.length := hi
    refine Ev.step (f := fun _ => some ((dfs a b a.length).take m, 0)) (fun k => ?_) (Ev.now _)
    simp only [show_Diff.l0]
    rw [if_neg (by omega)]
  | succ d ih =>
    intro i hi
    have e1 := next_i i a.length (by omega) (by omega)
    have hd := dfs_len a b i
    have ht : ((dfs a b i).take m).length = min m (dfs a b i).length := List.length_take ..
    refine Ev.step (fun k => ?_) (ih (i + 1) (by omega))
    simp only [show_Diff.l0]
    rw [if_pos (by omega), if_pos (by omega), if_pos (by omega), if_pos (by omega), rd_nat, rd_nat, e1]
    by_cases c : a.getD i 0 = b.getD i 0
    · rw [if_pos c, show dfs a b (i + 1) = dfs a b i from if_pos c]
    · rw [if_neg c, show dfs a b (i + 1) = dfs a b i ++ [⟨(i : Int), a.getD i 0, b.getD i 0⟩] from if_neg c]
      by_cases c2 : (dfs a b i).length < m
      · rw [if_pos (by omega), if_pos (by omega), List.take_of_length_le (by omega : (dfs a b i).length ≤ m), List.take_of_length_le (by simp; omega)]
      · rw [if_neg (by omega), List.take_append_of_le_length (by omega)]
theorem diff_yes (a b : List Int) (m : Nat) (hl : a.length = b.length) (hn : a.length ≤ 60) : Ev (fun k => show_Diff.f k a b (m : Int)) ((dfs a b a.length).take m, 0) := by
  unfold show_Diff.f
  refine Ev_if (by omega) (Ev_ifn (by omega) ?_)
  have h := diff_loop a b m hl hn a.length 0 (by omega)
  rw [show (dfs a b 0).take m = [] by simp [dfs]] at h
  exact h
theorem diff_neg (a b : List Int) (m : Int) (hl : a.length = b.length) (hm : m < 0) : Ev (fun k => show_Diff.f k a b m) (([] : List S32), 1) := by
  unfold show_Diff.f
  exact Ev_if (by omega) (Ev_if hm (Ev.now _))
theorem diff_odd (a b : List Int) (m : Int) (hl : a.length ≠ b.length) : Ev (fun k => show_Diff.f k a b m) (([] : List S32), 19) := by
  unfold show_Diff.f
  exact Ev_ifn (by omega) (Ev.now _)
/-- What the law's loop finds at a place. -/
theorem dfs_here (a b : List Int) (m i : Nat) (hi : i < a.length) (c : a.getD i 0 ≠ b.getD i 0) (hm : (dfs a b i).length < m) :
    (dfs a b i).length < ((dfs a b a.length).take m).length ∧ ((dfs a b a.length).take m)[(dfs a b i).length]? = some ⟨(i : Int), a.getD i 0, b.getD i 0⟩ := by
  have e : dfs a b (i + 1) = dfs a b i ++ [⟨(i : Int), a.getD i 0, b.getD i 0⟩] := if_neg c
  obtain ⟨r, hr⟩ := dfs_pre a b (i + 1) (a.length - (i + 1))
  rw [show i + 1 + (a.length - (i + 1)) = a.length by omega, e] at hr
  rw [hr]
  refine ⟨?_, ?_⟩
  · rw [List.length_take]; simp; omega
  · rw [List.getElem?_take, if_pos hm]
    simp
end Go.Proofs.Ytmmgiolhfekplaa.Pure
