/- The printed part of: the sum of a row doesn't hang on its order, nor on how it is parted. -/
import Derived.Laws.BitsAllLaws
import Derived.OpenShut
import Derived.Test.YtmmgiolhfekplaaPWidex6
import Derived.Test.YtmmgiolhfekplaaPWidex7
import Derived.Test.YtmmgiolhfekplaaWNEv
import Derived.Test.YtmmgiolhfekplaaWideT
set_option linter.unusedVariables false
set_option linter.unusedSimpArgs false
namespace Go.Proofs.Ytmmgiolhfekplaa.Pure
open Go.RowKit Go.Proofs.Ytmmgiolhfekplaa Go.Proofs.Ytmmgiolhfekplaa.PWide Go.Proofs.Ytmmgiolhfekplaa.Ext Go.Proofs.YtmmgiolhfekplaaW.PrintWords Go.Proofs.YtmmgiolhfekplaaW.PrintLast Go.Proofs.YtmmgiolhfekplaaW.PrintMore

/-- What a cell's two words are worth. -/
def val (x : S40) : Nat := (x.f0 * 18446744073709551616 + x.f1).toNat
def Fits (x : S40) : Prop := 0 ≤ x.f0 ∧ x.f0 ≤ 18446744073709551615 ∧ 0 ≤ x.f1 ∧ x.f1 ≤ 18446744073709551615
theorem val_ (x : S40) (h : Fits x) : val x < 340282366920938463463374607431768211456 ∧ hiw (val x) = x.f0 ∧ low (val x) = x.f1 := by
  obtain ⟨h1, h2, h3, h4⟩ := h
  unfold val hiw low
  omega
def total (l : List S40) : Nat := (l.map val).sum
theorem rd_eq (l : List S40) (i : Nat) (h : i < l.length) : rd_T40 l (i : Int) = l[i] := by
  unfold rd_T40
  simp [h]
theorem mod_L (x : Nat) : x % 340282366920938463463374607431768211456 < 340282366920938463463374607431768211456 := Nat.mod_lt _ (by omega)
theorem sum_go (l : List S40) (i : Nat) (x y : Int) (hl : l.length ≤ 20) (hlt : i < l.length) (p : Int × Int) (q : Int) (ha : wide_Add.f x y (rd_T40 l (i : Int)).f0 (rd_T40 l (i : Int)).f1 = some (p.1, p.2, q)) (k : Nat) :
    wide_Sum.l0 (k + 1) l (l.length : Int) (i : Int) x y = wide_Sum.l0 k l (l.length : Int) ((i + 1 : Nat) : Int) p.1 p.2 := by
  have e4 : wrap64 ((i : Int) + 1) = ((i + 1 : Nat) : Int) := by unfold wrap64; omega
  simp only [wide_Sum.l0]
  rw [if_pos (by omega), if_pos (by omega), if_pos (by omega), ha, e4]
  simp only [Option.bind_some]
theorem sum_loop (l : List S40) (hl : l.length ≤ 20) (hf : ∀ x ∈ l, Fits x) (d : Nat) : ∀ i : Nat, i + d = l.length →
    Ev (fun k => wide_Sum.l0 k l (l.length : Int) (i : Int) (hiw (total (l.take i) % 340282366920938463463374607431768211456)) (low (total (l.take i) % 340282366920938463463374607431768211456))) (hiw (total l % 340282366920938463463374607431768211456), low (total l % 340282366920938463463374607431768211456)) := by
  induction d with
  | zero =>
    intro i hi
    obtain rfl : i = l.length := hi
    rw [List.take_length]
    refine Ev.step (f := fun _ => some (hiw (total l % 340282366920938463463374607431768211456), low (total l % 340282366920938463463374607431768211456))) (fun k => ?_) (Ev.now _)
    simp only [wide_Sum.l0]
    rw [if_neg (by omega)]
  | succ d ih =>
    intro i hi
    have hlt : i < l.length := by omega
    have ihx := ih (i + 1) (by omega)
    obtain ⟨v1, v2, v3⟩ := val_ l[i] (hf _ (List.getElem_mem hlt))
    have e1 : total (l.take (i + 1)) = total (l.take i) + val l[i] := by
      unfold total
      rw [List.take_succ_eq_append_getElem hlt, List.map_append, List.sum_append]
      simp
    have e2 : (total (l.take i) % 340282366920938463463374607431768211456 + val l[i]) % 340282366920938463463374607431768211456 = total (l.take (i + 1)) % 340282366920938463463374607431768211456 := by rw [e1, Nat.mod_add_mod]
    have ha := wadd_ (total (l.take i) % 340282366920938463463374607431768211456) (val l[i]) (mod_L _) v1
    rw [e2, v2, v3] at ha
    rw [← rd_eq l i hlt] at ha
    exact Ev.step (sum_go l i _ _ hl hlt (hiw (total (l.take (i + 1)) % 340282366920938463463374607431768211456), low (total (l.take (i + 1)) % 340282366920938463463374607431768211456)) _ ha) ihx
theorem sum_ (l : List S40) (hl : l.length ≤ 20) (hf : ∀ x ∈ l, Fits x) : Ev (fun k => wide_Sum.f k l) (hiw (total l % 340282366920938463463374607431768211456), low (total l % 340282366920938463463374607431768211456)) := by
  have h := sum_loop l hl hf l.length 0 (by omega)
  have e : total (l.take 0) % 340282366920938463463374607431768211456 = 0 := by rw [List.take_zero]; rfl
  rw [e] at h
  exact Ev.congr (fun k => rfl) h
theorem total_append (a b : List S40) : total (a ++ b) = total a + total b := by unfold total; rw [List.map_append, List.sum_append]
theorem total_rev (l : List S40) : total l.reverse = total l := by
  induction l with
  | nil => rfl
  | cons x l ih =>
    rw [List.reverse_cons, total_append, ih]
    unfold total
    simp only [List.map_cons, List.map_nil, List.sum_cons, List.sum_nil]
    omega
theorem mod_sum (a b : Nat) : (a % 340282366920938463463374607431768211456 + b % 340282366920938463463374607431768211456) % 340282366920938463463374607431768211456 = (a + b) % 340282366920938463463374607431768211456 := by omega
theorem rows_end (l r : List S40) (at_ : Nat) (hl : l.length ≤ 20) (hf : ∀ x ∈ l, Fits x) (hat : at_ ≤ l.length) (hr : r = l.reverse) (i : Int) (hi : i < 0) : Ev (fun k => abacistlaw01_WideRows.l0 k l (at_ : Int) r i) true := by
  have hrl : r.length ≤ 20 := by rw [hr, List.length_reverse]; exact hl
  have hrf : ∀ x ∈ r, Fits x := fun x hx => hf x (by rw [hr] at hx; exact List.mem_reverse.mp hx)
  have s1 := sum_ (l.take at_) (by rw [List.length_take]; omega) (fun x hx => hf x (List.mem_of_mem_take hx))
  have s2 := sum_ (l.drop at_) (by rw [List.length_drop]; omega) (fun x hx => hf x (List.mem_of_mem_drop hx))
  have s3 := sum_ l hl hf
  have s4 := sum_ r hrl hrf
  have et : total (l.take at_) + total (l.drop at_) = total l := by rw [← total_append, List.take_append_drop]
  have ha := wadd_ (total (l.take at_) % 340282366920938463463374607431768211456) (total (l.drop at_) % 340282366920938463463374607431768211456) (mod_L _) (mod_L _)
  rw [mod_sum, et] at ha
  have er : total r = total l := by rw [hr, total_rev]
  rw [er] at s4
  refine Ev.step (f := fun k => (wide_Sum.f k (l.take at_)).bind fun bt210 => ((wide_Sum.f k (l.drop at_)).bind fun bt216 => ((wide_Add.f bt210.1 bt210.2 bt216.1 bt216.2).bind fun bt218 => ((wide_Sum.f k l).bind fun bt222 => ((wide_Sum.f k r).bind fun bt224 => (if (bt222.1 == bt224.1 && (bt222.2 == bt224.2)) = true then ((wide_Sum.f k l).bind fun bt226 => (some (bt218.1 == bt226.1 && (bt218.2.1 == bt226.2)))) else (some false))))))) (fun k => ?_) ?_
  · simp only [abacistlaw01_WideRows.l0]
    rw [if_neg (by omega), if_pos (by omega), if_pos (by omega), Int.toNat_natCast]
  · refine Ev.bind s1 (Ev.bind s2 ?_)
    rw [ha]
    simp only [Option.bind_some]
    refine Ev.bind s3 (Ev.bind s4 ?_)
    simp only [BEq.rfl, Bool.and_self, if_true]
    refine Ev.bind s3 ?_
    simp only [BEq.rfl, Bool.and_self]
    exact Ev.now _
theorem rows_loop (l : List S40) (at_ : Nat) (hl : l.length ≤ 20) (hf : ∀ x ∈ l, Fits x) (hat : at_ ≤ l.length) (n : Nat) : n ≤ l.length → ∀ r, r = (l.drop n).reverse →
    Ev (fun k => abacistlaw01_WideRows.l0 k l (at_ : Int) r ((n : Int) - 1)) true := by
  induction n with
  | zero =>
    intro _ r hr
    exact rows_end l r at_ hl hf hat (by rw [hr, List.drop_zero]) _ (by omega)
  | succ n ih =>
    intro hn r hr
    have hlt : n < l.length := by omega
    have e5 : ((n + 1 : Nat) : Int) - 1 = (n : Int) := by omega
    have e4 : wrap64 ((n : Int) - 1) = (n : Int) - 1 := by unfold wrap64; omega
    have ihx := ih (by omega) (r ++ [l[n]]) (by rw [hr, List.drop_eq_getElem_cons hlt, List.reverse_cons])
    have hrl : r.length ≤ 20 := by rw [hr, List.length_reverse, List.length_drop]; omega
    rw [e5]
    refine Ev.step (fun k => ?_) ihx
    simp only [abacistlaw01_WideRows.l0]
    rw [if_pos (by omega), if_pos (by omega), if_pos (by omega), if_pos (by omega), rd_eq l n hlt, e4]
theorem WideRows (l : List S40) (a1 : Int) (hf : ∀ x ∈ l, Fits x) (h0 : 0 ≤ a1) (h1 : a1 ≤ 255) : Ev (fun k => abacistlaw01_WideRows.f k l a1) true := by
  unfold abacistlaw01_WideRows.f
  refine Ev.bind awake_ ?_
  simp only [if_true]
  by_cases hl : (l.length : Int) > 20
  · simp only [if_pos hl]; exact Ev.now _
  · obtain ⟨a, rfl⟩ := Int.eq_ofNat_of_zero_le h0
    have e1 : wrap64 ((l.length : Int) + 1) = ((l.length + 1 : Nat) : Int) := by unfold wrap64; omega
    have e2 : wrap64 (a : Int) = (a : Int) := by unfold wrap64; omega
    have e3 : wrap64 ((l.length : Int) - 1) = (l.length : Int) - 1 := by unfold wrap64; omega
    have e4 : Int.tmod (a : Int) ((l.length + 1 : Nat) : Int) = ((a % (l.length + 1) : Nat) : Int) := rfl
    have hne : ¬ ((l.length + 1 : Nat) : Int) = 0 := by omega
    simp only [if_neg hl, e1, e2, e3, if_neg hne, e4]
    have hlt := Nat.mod_lt a (show 0 < l.length + 1 by omega)
    exact rows_loop l _ (by omega) hf (by omega) l.length (Nat.le_refl _) [] (by rw [List.drop_length]; rfl)
end Go.Proofs.Ytmmgiolhfekplaa.Pure
