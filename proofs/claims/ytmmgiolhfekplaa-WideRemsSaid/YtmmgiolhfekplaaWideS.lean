/- Sums of rows. -/
import Derived.Laws.BitsAllLaws
import Derived.OpenShut
import Derived.Test.YtmmgiolhfekplaaPWidex5
import Derived.Test.YtmmgiolhfekplaaWNEv
import Derived.Test.YtmmgiolhfekplaaWideB
set_option linter.unusedVariables false
set_option linter.unusedSimpArgs false
namespace Go.Proofs.Ytmmgiolhfekplaa.Pure
open Go.RowKit Go.Proofs.Ytmmgiolhfekplaa Go.Proofs.Ytmmgiolhfekplaa.PWide Go.Proofs.Ytmmgiolhfekplaa.Ext Go.Proofs.YtmmgiolhfekplaaW.PrintWords Go.Proofs.YtmmgiolhfekplaaW.PrintLast Go.Proofs.YtmmgiolhfekplaaW.PrintMore

/-- What a cell's two words are worth. -/
def val (x : S40) : Nat := (x.f0 * 18446744073709551616 + x.f1).toNat
def Fits (x : S40) : Prop := 0 ≤ x.f0 ∧ x.f0 ≤ 18446744073709551615 ∧ 0 ≤ x.f1 ∧ x.f1 ≤ 18446744073709551615
theorem val_ (x : S40) (h : Fits x) : val x < 340282366920938463463374607431768211456 ∧ hiw (val x) = x.f0 ∧ low (val x) = x.f1 := by
  obtain ⟨h1, h2, h3, h4⟩ := h
  unfold val hiw low
  omega
def total (l : List S40) : Nat := (l.map val).sum
theorem rd_eq (l : List S40) (i : Nat) (h : i < l.length) : rd_T40 l (i : Int) = l[i] := by
  unfold rd_T40
  simp [h]
theorem mod_L (x : Nat) : x % 340282366920938463463374607431768211456 < 340282366920938463463374607431768211456 := Nat.mod_lt _ (by omega)
theorem sum_go (l : List S40) (i : Nat) (x y : Int) (hl : l.length ≤ 20) (hlt : i < l.length) (p : Int × Int) (q : Int) (ha : wide_Add.f x y (rd_T40 l (i : Int)).f0 (rd_T40 l (i : Int)).f1 = some (p.1, p.2, q)) (k : Nat) :
    wide_Sum.l0 (k + 1) l (l.length : Int) (i : Int) x y = wide_Sum.l0 k l (l.length : Int) ((i + 1 : Nat) : Int) p.1 p.2 := by
  have e4 : wrap64 ((i : Int) + 1) = ((i + 1 : Nat) : Int) := by unfold wrap64; omega
  simp only [wide_Sum.l0]
  rw [if_pos (by omega), if_pos (by omega), if_pos (by omega), ha, e4]
  simp only [Option.bind_some]
theorem sum_loop (l : List S40) (hl : l.length ≤ 20) (hf : ∀ x ∈ l, Fits x) (d : Nat) : ∀ i : Nat, i + d = l.length →
    Ev (fun k => wide_Sum.l0 k l (l.length : Int) (i : Int) (hiw (total (l.take i) % 340282366920938463463374607431768211456)) (low (total (l.take i) % 340282366920938463463374607431768211456))) (hiw (total l % 340282366920938463463374607431768211456), low (total l % 340282366920938463463374607431768211456)) := by
  induction d with
  | zero =>
    intro i hi
    obtain rfl : i = l.length := hi
    rw [List.take_length]
    refine Ev.step (f := fun _ => some (hiw (total l % 340282366920938463463374607431768211456), low (total l % 340282366920938463463374607431768211456))) (fun k => ?_) (Ev.now _)
    simp only [wide_Sum.l0]
    rw [if_neg (by omega)]
  | succ d ih =>
    intro i hi
    have hlt : i < l.length := by omega
    have ihx := ih (i + 1) (by omega)
    obtain ⟨v1, v2, v3⟩ := val_ l[i] (hf _ (List.getElem_mem hlt))
    have e1 : total (l.take (i + 1)) = total (l.take i) + val l[i] := by
      unfold total
      rw [List.take_succ_eq_append_getElem hlt, List.map_append, List.sum_append]
      simp
    have e2 : (total (l.take i) % 340282366920938463463374607431768211456 + val l[i]) % 340282366920938463463374607431768211456 = total (l.take (i + 1)) % 340282366920938463463374607431768211456 := by rw [e1, Nat.mod_add_mod]
    have ha := wadd_ (total (l.take i) % 340282366920938463463374607431768211456) (val l[i]) (mod_L _) v1
    rw [e2, v2, v3] at ha
    rw [← rd_eq l i hlt] at ha
    exact Ev.step (sum_go l i _ _ hl hlt (hiw (total (l.take (i + 1)) % 340282366920938463463374607431768211456), low (total (l.take (i + 1)) % 340282366920938463463374607431768211456)) _ ha) ihx
theorem sum_ (l : List S40) (hl : l.length ≤ 20) (hf : ∀ x ∈ l, Fits x) : Ev (fun k => wide_Sum.f k l) (hiw (total l % 340282366920938463463374607431768211456), low (total l % 340282366920938463463374607431768211456)) := by
  have h := sum_loop l hl hf l.length 0 (by omega)
  have e : total (l.take 0) % 340282366920938463463374607431768211456 = 0 := by rw [List.take_zero]; rfl
  rw [e] at h
  exact Ev.congr (fun k => rfl) h
theorem total_append (a b : List S40) : total (a ++ b) = total a + total b := by unfold total; rw [List.map_append, List.sum_append]
theorem total_rev (l : List S40) : total l.reverse = total l := by
  induction l with
  | nil => rfl
  | cons x l ih =>
    rw [List.reverse_cons, total_append, ih]
    unfold total
    simp only [List.map_cons, List.map_nil, List.sum_cons, List.sum_nil]
    omega
theorem mod_sum (a b : Nat) : (a % 340282366920938463463374607431768211456 + b % 340282366920938463463374607431768211456) % 340282366920938463463374607431768211456 = (a + b) % 340282366920938463463374607431768211456 := by omega
end Go.Proofs.Ytmmgiolhfekplaa.Pure
