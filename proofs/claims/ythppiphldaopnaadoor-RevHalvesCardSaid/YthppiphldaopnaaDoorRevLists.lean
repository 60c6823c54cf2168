import Derived.Laws.BitsAllLaws
import Derived.OpenShut
import Derived.Test.YthppiphldaopnaaDoorPRevx1
import Derived.Test.YthppiphldaopnaaDoorPRevx3
import Derived.Test.YthppiphldaopnaaDoorWNEv
import Derived.Test.YthppiphldaopnaaDoorNums
import Derived.Test.YthppiphldaopnaaDoorDig
import Derived.Test.YthppiphldaopnaaDoorNums
--NEEDS abacistref04_Same rev_Even rev_Weave abacistref05_Turn
set_option linter.unusedVariables false
set_option linter.unusedSimpArgs false
namespace Go.Proofs.YthppiphldaopnaaDoor.Pure
open Go.RowKit Go.Proofs.YthppiphldaopnaaDoor Go.Proofs.YthppiphldaopnaaDoor.PRev Go.Proofs.YthppiphldaopnaaDoor.PRevA Go.Proofs.YthppiphldaopnaaDoor.Ext Go.Proofs.YthppiphldaopnaaDoorW.PrintWords Go.Proofs.YthppiphldaopnaaDoorW.PrintLast Go.Proofs.YthppiphldaopnaaDoorW.PrintMore

/-! ### rows -/
theorem rd_nat (l : List Int) (i : Nat) : rd l (i : Int) = l.getD i 0 := by unfold rd; rw [Int.toNat_natCast]
theorem next_i (i n : Nat) (h : i < n) (hn : n ≤ 9223372036854775807) : wrap64 ((i : Int) + 1) = ((i + 1 : Nat) : Int) := by unfold wrap64; omega
theorem getD_lt (l : List Int) (i : Nat) (h : i < l.length) : l.getD i 0 = l[i] := by simp [List.getD, h]
/-- The loop of Same. -/
theorem same_loop (a b : List Int) (hl : a.length = b.length) (hn : a.length ≤ 9223372036854775807) (d : Nat) : ∀ i : Nat, i + d = a.length → (∀ j, j < i → a.getD j 0 = b.getD j 0) →
    Ev (fun k => abacistref04_Same.l0 k a b (i : Int)) (decide (a = b)) := by
  induction d with
  | zero =>
    intro i hi hj
    refine Ev.step (f := fun _ => some true) (fun k => ?_) ?_
    · simp only [abacistref04_Same.l0]
      rw [if_neg (by omega)]
    · have e : a = b := List.ext_getElem hl fun j h1 h2 => by
        have := hj j (by omega)
        rw [getD_lt _ _ h1, getD_lt _ _ h2] at this
        exact this
      rw [decide_eq_true e]
      exact Ev.now _
  | succ d ih =>
    intro i hi hj
    have e1 := next_i i a.length (by omega) hn
    by_cases c : a.getD i 0 = b.getD i 0
    · refine Ev.step (f := fun k => abacistref04_Same.l0 k a b ((i + 1 : Nat) : Int)) (fun k => ?_) (ih (i + 1) (by omega) fun j hj2 => ?_)
      · simp only [abacistref04_Same.l0]
        rw [if_pos (by omega), if_pos (by omega), if_pos (by omega), rd_nat, rd_nat, if_pos c, e1]
      · by_cases c2 : j = i
        · subst c2; exact c
        · exact hj j (by omega)
    · refine Ev.step (f := fun _ => some false) (fun k => ?_) ?_
      · simp only [abacistref04_Same.l0]
        rw [if_pos (by omega), if_pos (by omega), if_pos (by omega), rd_nat, rd_nat, if_neg c]
      · rw [decide_eq_false (fun h => c (by rw [h]))]
        exact Ev.now _
theorem same_ (a b : List Int) (hn : a.length ≤ 9223372036854775807) : Ev (fun k => abacistref04_Same.f k a b) (decide (a = b)) := by
  unfold abacistref04_Same.f
  by_cases c : a.length = b.length
  · exact Ev_if (by omega) (same_loop a b c hn a.length 0 (by omega) fun j h => by omega)
  · refine Ev_ifn (by omega) ?_
    rw [decide_eq_false (fun h => c (by rw [h]))]
    exact Ev.now _
theorem same_yes (a b : List Int) (hn : a.length ≤ 9223372036854775807) (h : a = b) : Ev (fun k => abacistref04_Same.f k a b) true := by
  have := same_ a b hn
  rwa [decide_eq_true h] at this

/-! ### a row whose words stand at other places -/
/-- G takes the places below n to places below n, and back. -/
def Inv2 (G : Nat → Nat) (n : Nat) : Prop := ∀ i, i < n → G i < n ∧ G (G i) = i
def turnL (G : Nat → Nat) (l : List Int) : List Int := (List.range l.length).map fun j => l.getD (G j) 0
theorem turnL_len (G : Nat → Nat) (l : List Int) : (turnL G l).length = l.length := by simp [turnL]
theorem turnL_get (G : Nat → Nat) (l : List Int) (j : Nat) (h : j < l.length) : (turnL G l).getD j 0 = l.getD (G j) 0 := by
  rw [getD_lt _ _ (by rw [turnL_len]; exact h)]
  simp [turnL]
theorem ext_getD (a b : List Int) (hl : a.length = b.length) (h : ∀ j, j < a.length → a.getD j 0 = b.getD j 0) : a = b :=
  List.ext_getElem hl fun j h1 h2 => by
    have := h j h1
    rw [getD_lt _ _ h1, getD_lt _ _ h2] at this
    exact this
theorem turnL_turnL (G : Nat → Nat) (l : List Int) (hG : Inv2 G l.length) : turnL G (turnL G l) = l := by
  refine ext_getD _ _ (by rw [turnL_len, turnL_len]) fun j hj => ?_
  rw [turnL_len, turnL_len] at hj
  rw [turnL_get _ _ _ (by rw [turnL_len]; exact hj), turnL_get _ _ _ (hG j hj).1, (hG j hj).2]
/-- What stands behind n rounds: length, and the places so far. -/
def Placed (G : Nat → Nat) (l o : List Int) (n : Nat) : Prop := o.length = l.length ∧ ∀ i, i < n → o.getD (G i) 0 = l.getD i 0
theorem Placed.step {G : Nat → Nat} {l o : List Int} {n : Nat} (hG : Inv2 G l.length) (h : Placed G l o n) (hn : n < l.length) : Placed G l (o.set (G n) (l.getD n 0)) (n + 1) := by
  refine ⟨by rw [List.length_set]; exact h.1, fun i hi => ?_⟩
  have hb := (hG n hn).1
  by_cases c : i = n
  · subst c
    rw [getD_lt _ _ (by rw [List.length_set, h.1]; exact hb)]
    simp
  · have hne : G n ≠ G i := fun e => c (by rw [← (hG i (by omega)).2, ← e, (hG n hn).2])
    have h2 := h.2 i (by omega)
    have hgi := (hG i (by omega)).1
    rw [getD_lt _ _ (by rw [List.length_set, h.1]; exact hgi)]
    rw [getD_lt _ _ (by rw [h.1]; exact hgi)] at h2
    rw [List.getElem_set_ne hne]
    exact h2
theorem Placed.all {G : Nat → Nat} {l o : List Int} (hG : Inv2 G l.length) (h : Placed G l o l.length) : o = turnL G l := by
  refine ext_getD _ _ (by rw [turnL_len, h.1]) fun j hj => ?_
  rw [h.1] at hj
  rw [turnL_get _ _ _ hj]
  have := h.2 (G j) (hG j hj).1
  rwa [(hG j hj).2] at this
theorem mvs_ (F : Int → Option Int) (G : Nat → Nat) (l : List Int) (hG : Inv2 G l.length) (hF : ∀ i : Nat, i < l.length → F (i : Int) = some ((G i : Nat) : Int)) :
    ∀ n, n ≤ l.length → ∃ o, Ext.mvs F l n = some o ∧ Placed G l o n := by
  intro n
  induction n with
  | zero => intro _; exact ⟨_, rfl, by simp, fun i h => by omega⟩
  | succ n ih =>
    intro hn
    obtain ⟨o, h1, h2⟩ := ih (by omega)
    refine ⟨o.set (G n) (l.getD n 0), ?_, h2.step hG (by omega)⟩
    have hb := (hG n (by omega)).1
    simp only [Ext.mvs]
    rw [h1, Option.bind_some, hF n (by omega), Option.bind_some, if_pos (by omega), rd_nat, Int.toNat_natCast]
theorem mvs_all (F : Int → Option Int) (G : Nat → Nat) (l : List Int) (hG : Inv2 G l.length) (hF : ∀ i : Nat, i < l.length → F (i : Int) = some ((G i : Nat) : Int)) : Ext.mvs F l l.length = some (turnL G l) := by
  obtain ⟨o, h1, h2⟩ := mvs_ F G l hG hF l.length (Nat.le_refl _)
  rw [h1, h2.all hG]
/-- The document's loop. -/
theorem rturn_loop (G : Nat → Nat) (l : List Int) (k r : Int) (hl : l.length ≤ 256) (hG : Inv2 G l.length) (hF : ∀ i : Nat, i < l.length → Ev (fun n => abacistref05_Digits.f n (i : Int) k r) ((G i : Nat) : Int)) (d : Nat) :
    ∀ (i : Nat) (o : List Int), i + d = l.length → Placed G l o i → Ev (fun n => abacistref05_Turn.l0 n l k r o (i : Int)) (turnL G l) := by
  induction d with
  | zero =>
    intro i o hi ho
    refine Ev.step (f := fun _ => some o) (fun n => ?_) ?_
    · simp only [abacistref05_Turn.l0]
      rw [if_neg (by omega)]
    · obtain rfl : i = l.length := hi
      rw [← ho.all hG]
      exact Ev.now _
  | succ d ih =>
    intro i o hi ho
    have hb := (hG i (by omega)).1
    have e1 := next_i i l.length (by omega) (by omega)
    refine Ev.step (f := fun n => (abacistref05_Digits.f n (i : Int) k r).bind fun t => (if 0 ≤ (i : Int) then (if 0 ≤ t then (if t < (o.length : Int) then (abacistref05_Turn.l0 n l k r (o.set (t : Int).toNat (rd l (i : Int))) (wrap64 ((i : Int) + 1))) else (none)) else (none)) else (none))) (fun n => ?_) ?_
    · simp only [abacistref05_Turn.l0]
      rw [if_pos (by omega)]
    · refine Ev.bind (hF i (by omega)) ?_
      refine Ev_if (by omega) (Ev_if (by omega) (Ev_if (by rw [ho.1]; omega) ?_))
      rw [e1, rd_nat, Int.toNat_natCast]
      exact ih (i + 1) _ (by omega) (ho.step hG (by omega))
theorem rturn_ (G : Nat → Nat) (l : List Int) (k r : Int) (hl : l.length ≤ 256) (hG : Inv2 G l.length) (hF : ∀ i : Nat, i < l.length → Ev (fun n => abacistref05_Digits.f n (i : Int) k r) ((G i : Nat) : Int)) : Ev (fun n => abacistref05_Turn.f n l k r) (turnL G l) := by
  unfold abacistref05_Turn.f
  simp only [Option.bind_some, List.length_nil, List.nil_append, Nat.zero_add]
  exact Ev_if (by omega) (rturn_loop G l k r hl hG hF l.length 0 l (by omega) ⟨rfl, fun i h => by omega⟩)

/-! ### even and odd parts -/
def evens (l : List Int) (n : Nat) : List Int := (List.range ((n + 1) / 2)).map fun i => l.getD (2 * i) 0
def odds (l : List Int) (n : Nat) : List Int := (List.range (n / 2)).map fun i => l.getD (2 * i + 1) 0
theorem evens_len (l : List Int) (n : Nat) : (evens l n).length = (n + 1) / 2 := by simp [evens]
theorem odds_len (l : List Int) (n : Nat) : (odds l n).length = n / 2 := by simp [odds]
theorem evens_get (l : List Int) (n i : Nat) (h : i < (n + 1) / 2) : (evens l n).getD i 0 = l.getD (2 * i) 0 := by
  rw [getD_lt _ _ (by rw [evens_len]; exact h)]; simp [evens]
theorem odds_get (l : List Int) (n i : Nat) (h : i < n / 2) : (odds l n).getD i 0 = l.getD (2 * i + 1) 0 := by
  rw [getD_lt _ _ (by rw [odds_len]; exact h)]; simp [odds]
theorem evens_even (l : List Int) (n : Nat) (h : n % 2 = 0) : evens l (n + 1) = evens l n ++ [l.getD n 0] := by
  unfold evens
  rw [show (n + 1 + 1) / 2 = (n + 1) / 2 + 1 by omega, List.range_succ, List.map_append, List.map_singleton, show 2 * ((n + 1) / 2) = n by omega]
theorem evens_odd (l : List Int) (n : Nat) (h : n % 2 = 1) : evens l (n + 1) = evens l n := by
  unfold evens
  rw [show (n + 1 + 1) / 2 = (n + 1) / 2 by omega]
theorem odds_odd (l : List Int) (n : Nat) (h : n % 2 = 1) : odds l (n + 1) = odds l n ++ [l.getD n 0] := by
  unfold odds
  rw [show (n + 1) / 2 = n / 2 + 1 by omega, List.range_succ, List.map_append, List.map_singleton, show 2 * (n / 2) + 1 = n by omega]
theorem odds_even (l : List Int) (n : Nat) (h : n % 2 = 0) : odds l (n + 1) = odds l n := by
  unfold odds
  rw [show (n + 1) / 2 = n / 2 by omega]
theorem even_loop (l : List Int) (hl : l.length ≤ 1024) (d : Nat) : ∀ i : Nat, i + d = l.length → Ev (fun k => rev_Even.l0 k (evens l i) (odds l i) l (l.length : Int) (i : Int)) (evens l l.length, odds l l.length) := by
  induction d with
  | zero =>
    intro i hi
    obtain rfl : i = l.length := hi
    refine Ev.step (f := fun _ => some (evens l l.length, odds l l.length)) (fun k => ?_) (Ev.now _)
    simp only [rev_Even.l0]
    rw [if_neg (by omega)]
  | succ d ih =>
    intro i hi
    have e1 := next_i i l.length (by omega) (by omega)
    have hlE := evens_len l i
    have hlO := odds_len l i
    refine Ev.step (fun k => ?_) (ih (i + 1) (by omega))
    simp only [rev_Even.l0]
    rw [if_pos (by omega), if_pos (by omega), if_pos (by omega), e1, rd_nat]
    rcases Nat.mod_two_eq_zero_or_one i with c | c
    · rw [if_pos (by show Int.tmod (i : Int) ((2 : Nat) : Int) = 0; rw [← Int.ofNat_tmod]; omega), if_pos (by omega), evens_even l i c, odds_even l i c]
    · rw [if_neg (by show ¬ Int.tmod (i : Int) ((2 : Nat) : Int) = 0; rw [← Int.ofNat_tmod]; omega), if_pos (by omega), evens_odd l i c, odds_odd l i c]
theorem even_ (l : List Int) (hl : l.length ≤ 1024) : Ev (fun k => rev_Even.f k l) (evens l l.length, odds l l.length) := even_loop l hl l.length 0 (by omega)
/-- Both woven. -/
def woven (a b : List Int) (n : Nat) : List Int := (List.range n).map fun j => if j % 2 = 0 then a.getD (j / 2) 0 else b.getD (j / 2) 0
theorem woven_len (a b : List Int) (n : Nat) : (woven a b n).length = n := by simp [woven]
theorem woven_get (a b : List Int) (n j : Nat) (h : j < n) : (woven a b n).getD j 0 = if j % 2 = 0 then a.getD (j / 2) 0 else b.getD (j / 2) 0 := by
  rw [getD_lt _ _ (by rw [woven_len]; exact h)]; simp [woven]
theorem woven_succ (a b : List Int) (n : Nat) : woven a b (n + 1) = woven a b n ++ [if n % 2 = 0 then a.getD (n / 2) 0 else b.getD (n / 2) 0] := by
  unfold woven
  rw [List.range_succ, List.map_append, List.map_singleton]
theorem weave_loop (a b : List Int) (h1 : b.length ≤ a.length) (h2 : a.length ≤ b.length + 1) (hl : a.length ≤ 1024) (d : Nat) : ∀ i : Nat, i + d = a.length →
    Ev (fun k => rev_Weave.l0 k b (woven a b (min (2 * i) (a.length + b.length))) a (a.length : Int) (i : Int)) (woven a b (a.length + b.length), 0) := by
  induction d with
  | zero =>
    intro i hi
    obtain rfl : i = a.length := hi
    rw [show min (2 * a.length) (a.length + b.length) = a.length + b.length by omega]
    refine Ev.step (f := fun _ => some (woven a b (a.length + b.length), 0)) (fun k => ?_) (Ev.now _)
    simp only [rev_Weave.l0]
    rw [if_neg (by omega)]
  | succ d ih =>
    intro i hi
    have e1 := next_i i a.length (by omega) (by omega)
    have hw := woven_len a b (min (2 * i) (a.length + b.length))
    have hm : min (2 * i) (a.length + b.length) = 2 * i := by omega
    refine Ev.step (fun k => ?_) (ih (i + 1) (by omega))
    rw [hm] at hw ⊢
    have s1 := woven_succ a b (2 * i)
    rw [if_pos (by omega), show 2 * i / 2 = i by omega] at s1
    simp only [rev_Weave.l0]
    rw [if_pos (by omega), if_pos (by omega), if_pos (by omega), if_pos (by omega), e1, rd_nat, Option.bind_some, ← s1]
    by_cases c : i < b.length
    · have s2 := woven_succ a b (2 * i + 1)
      rw [if_neg (by omega), show (2 * i + 1) / 2 = i by omega] at s2
      rw [if_pos (by omega), if_pos (by rw [woven_len]; omega), rd_nat, ← s2, show min (2 * (i + 1)) (a.length + b.length) = 2 * i + 1 + 1 by omega]
    · rw [if_neg (by omega), show min (2 * (i + 1)) (a.length + b.length) = 2 * i + 1 by omega]
theorem weave_yes (a b : List Int) (h1 : b.length ≤ a.length) (h2 : a.length ≤ b.length + 1) (hl : a.length ≤ 1024) : Ev (fun k => rev_Weave.f k a b) (woven a b (a.length + b.length), 0) := by
  unfold rev_Weave.f
  have e1 : wrap64 ((a.length : Int) - (b.length : Int)) = (a.length : Int) - (b.length : Int) := wrap_i _ (by omega) (by omega)
  have e2 : wrap64 ((a.length : Int) + (b.length : Int)) = ((a.length + b.length : Nat) : Int) := by rw [wrap_i _ (by omega) (by omega)]; omega
  rw [e1]
  refine Ev_ifn (by omega) ?_
  rw [decide_eq_false (by omega)]
  have h := weave_loop a b h1 h2 hl a.length 0 (by omega)
  rw [show min (2 * 0) (a.length + b.length) = 0 by omega] at h
  refine Ev.step (fun k => ?_) h
  simp only [rev_Weave.j0]
  rw [if_neg (by decide), e2, if_pos (by omega), if_pos (by omega)]
  rfl
theorem weave_no (a b : List Int) (h : a.length < b.length ∨ b.length + 1 < a.length) (hl : a.length ≤ 1024) (hl2 : b.length ≤ 1024) : Ev (fun k => rev_Weave.f k a b) (([] : List Int), 19) := by
  unfold rev_Weave.f
  have e1 : wrap64 ((a.length : Int) - (b.length : Int)) = (a.length : Int) - (b.length : Int) := wrap_i _ (by omega) (by omega)
  rw [e1]
  have hj : Ev (fun k => rev_Weave.j0 k a b true) (([] : List Int), 19) := by
    refine Ev.step (f := fun _ => some (([] : List Int), 19)) (fun k => ?_) (Ev.now _)
    simp only [rev_Weave.j0]
    rw [if_pos trivial]
  rcases h with c | c
  · exact Ev_if (by omega) hj
  · refine Ev_ifn (by omega) ?_
    rw [decide_eq_true (by omega)]
    exact hj
theorem woven_parts (l : List Int) : woven (evens l l.length) (odds l l.length) l.length = l := by
  refine ext_getD _ _ (woven_len _ _ _) fun j hj => ?_
  rw [woven_len] at hj
  rw [woven_get _ _ _ _ hj]
  rcases Nat.mod_two_eq_zero_or_one j with c | c
  · rw [if_pos c, evens_get _ _ _ (by omega), show 2 * (j / 2) = j by omega]
  · rw [if_neg (by omega), odds_get _ _ _ (by omega), show 2 * (j / 2) + 1 = j by omega]
theorem evens_woven (a b : List Int) (h1 : b.length ≤ a.length) (h2 : a.length ≤ b.length + 1) : evens (woven a b (a.length + b.length)) (a.length + b.length) = a := by
  refine ext_getD _ _ (by rw [evens_len]; omega) fun j hj => ?_
  rw [evens_len] at hj
  rw [evens_get _ _ _ hj, woven_get _ _ _ _ (by omega), if_pos (by omega), show 2 * j / 2 = j by omega]
theorem odds_woven (a b : List Int) (h1 : b.length ≤ a.length) (h2 : a.length ≤ b.length + 1) : odds (woven a b (a.length + b.length)) (a.length + b.length) = b := by
  refine ext_getD _ _ (by rw [odds_len]; omega) fun j hj => ?_
  rw [odds_len] at hj
  rw [odds_get _ _ _ hj, woven_get _ _ _ _ (by omega), if_neg (by omega), show (2 * j + 1) / 2 = j by omega]
theorem getD_app1 (a b : List Int) (j : Nat) (h : j < a.length) : (a ++ b).getD j 0 = a.getD j 0 := by simp [List.getD, List.getElem?_append_left h]
theorem getD_app2 (a b : List Int) (j : Nat) (h : a.length ≤ j) : (a ++ b).getD j 0 = b.getD (j - a.length) 0 := by simp [List.getD, List.getElem?_append_right h]
/-- The top bit stands at the bottom. -/
theorem D_top (n i : Nat) : Rv.D 2 (n + 1) i = 2 * Rv.D 2 n i + i / 2 ^ n % 2 := by
  induction n generalizing i with
  | zero => simp [Rv.D]
  | succ n ih =>
    have h1 : Rv.D 2 (n + 1 + 1) i = (i % 2) * 2 ^ (n + 1) + Rv.D 2 (n + 1) (i / 2) := rfl
    have h2 : Rv.D 2 (n + 1) i = (i % 2) * 2 ^ n + Rv.D 2 n (i / 2) := rfl
    rw [h1, ih (i / 2), h2, Nat.div_div_eq_div_mul, ← Nat.pow_succ', Nat.pow_succ]
    generalize Rv.D 2 n (i / 2) = x
    generalize i / (2 ^ n * 2) % 2 = y
    rw [Nat.mul_add, ← Nat.mul_assoc (i % 2)]
    generalize i % 2 * 2 ^ n = z
    omega
theorem D_low (n i j : Nat) : Rv.D 2 n (i + j * 2 ^ n) = Rv.D 2 n i := by
  induction n generalizing i j with
  | zero => rfl
  | succ n ih =>
    have e : i + j * 2 ^ (n + 1) = i + (j * 2 ^ n) * 2 := by rw [Nat.pow_succ, Nat.mul_assoc]
    show (i + j * 2 ^ (n + 1)) % 2 * 2 ^ n + Rv.D 2 n ((i + j * 2 ^ (n + 1)) / 2) = i % 2 * 2 ^ n + Rv.D 2 n (i / 2)
    rw [e, Nat.add_mul_mod_self_right, Nat.add_mul_div_right _ _ (by omega), ih]
theorem D_inv2 (n : Nat) : Inv2 (Rv.D 2 n) (2 ^ n) := fun i hi => ⟨Rv.D_lt 2 (by omega) n i, Rv.D_D 2 (by omega) n i hi⟩
/-- To turn about a row is to turn about both parts, one behind the other. -/
theorem turn_halves (n : Nat) (l : List Int) (hl : l.length = 2 ^ (n + 1)) : turnL (Rv.D 2 (n + 1)) l = turnL (Rv.D 2 n) (evens l l.length) ++ turnL (Rv.D 2 n) (odds l l.length) := by
  have hp : 2 ^ (n + 1) = 2 * 2 ^ n := by rw [Nat.pow_succ, Nat.mul_comm]
  have hpos := Nat.two_pow_pos n
  have he := evens_len l l.length
  have ho := odds_len l l.length
  refine ext_getD _ _ (by rw [List.length_append, turnL_len, turnL_len, turnL_len, he, ho]; omega) fun j hj => ?_
  rw [turnL_len] at hj
  rw [turnL_get _ _ _ hj, D_top]
  by_cases c : j < 2 ^ n
  · have hD := Rv.D_lt 2 (by omega) n j
    rw [getD_app1 _ _ _ (by rw [turnL_len, he]; omega), turnL_get _ _ _ (by rw [he]; omega), evens_get _ _ _ (by omega), Nat.div_eq_of_lt c]
    rfl
  · have hj2 : j = (j - 2 ^ n) + 1 * 2 ^ n := by omega
    have hD := Rv.D_lt 2 (by omega) n (j - 2 ^ n)
    have e1 : Rv.D 2 n j = Rv.D 2 n (j - 2 ^ n) := by rw [← D_low n (j - 2 ^ n) 1, ← hj2]
    have e2 : j / 2 ^ n = 1 := by
      rw [hj2, Nat.add_mul_div_right _ _ hpos, Nat.div_eq_of_lt (by omega)]
    rw [getD_app2 _ _ _ (by rw [turnL_len, he]; omega), turnL_len, he, show (l.length + 1) / 2 = 2 ^ n by omega, turnL_get _ _ _ (by rw [ho]; omega), odds_get _ _ _ (by omega), e1, e2]
end Go.Proofs.YthppiphldaopnaaDoor.Pure
