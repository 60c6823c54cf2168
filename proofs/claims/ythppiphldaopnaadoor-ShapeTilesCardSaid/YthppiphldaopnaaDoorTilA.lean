import Derived.Test.YthppiphldaopnaaDoorPTilx1
import Derived.Test.YthppiphldaopnaaDoorShapeB
import Derived.Test.YthppiphldaopnaaDoorSameB
/-! Tiles: what the program's list is. -/
namespace Go.Proofs.YthppiphldaopnaaDoor.Tiles
open Go.RowKit Go.Proofs.YthppiphldaopnaaDoor Go.Proofs.YthppiphldaopnaaDoor.Ext Go.Proofs.YthppiphldaopnaaDoor.PShape Go.Proofs.YthppiphldaopnaaDoor.PTil Go.Proofs.YthppiphldaopnaaDoor.Pure Go.Proofs.YthppiphldaopnaaDoorW.PrintWords Go.Proofs.YthppiphldaopnaaDoorW.PrintLast Go.Proofs.YthppiphldaopnaaDoorW.PrintMore
set_option linter.unusedVariables false
set_option linter.unusedSimpArgs false

/-- How many parts. -/
def pt (n h : Nat) : Nat := (n - 1) / h + 1
theorem pt_le {n h : Nat} (hn : 1 ≤ n) : pt n h ≤ n := by
  unfold pt
  have := Nat.div_le_self (n - 1) h
  omega
theorem pt_mul {n h i : Nat} (hn : 1 ≤ n) (hi : i < pt n h) : i * h ≤ n - 1 := by
  unfold pt at hi
  have h1 : i ≤ (n - 1) / h := by omega
  exact Nat.le_trans (Nat.mul_le_mul_right _ h1) (Nat.div_mul_le_self _ _)
theorem parts_f (n h : Nat) (hn : 1 ≤ n) (hn2 : n ≤ 256) (hh : 1 ≤ h) : shape_parts.f (n : Int) (h : Int) = some ((pt n h : Nat) : Int) := by
  have e1 : wrap64 ((n : Int) - 1) = ((n - 1 : Nat) : Int) := by unfold wrap64; omega
  have h1 := Nat.div_le_self (n - 1) h
  have e2 : Int.tdiv ((n - 1 : Nat) : Int) (h : Int) = (((n - 1) / h : Nat) : Int) := by rw [Int.tdiv_eq_ediv_of_nonneg (by omega), Int.natCast_ediv]
  unfold shape_parts.f
  rw [if_neg (by omega), e1, e2]
  clear e1 e2
  unfold pt
  generalize (n - 1) / h = z at *
  congr 1
  unfold wrap64
  omega
/-- The tile of a row and a column of tiles. -/
def T (R C h w i j : Nat) : S38 := ⟨⟨((min h (R - i * h) : Nat) : Int), ((min w (C - j * w) : Nat) : Int)⟩, ((i * h : Nat) : Int), ((j * w : Nat) : Int)⟩
def tl (R C h w m : Nat) : List S38 := (List.range m).map fun k => T R C h w (k / pt C w) (k % pt C w)
theorem tl_succ (R C h w i j : Nat) (hj : j < pt C w) : tl R C h w (i * pt C w + (j + 1)) = tl R C h w (i * pt C w + j) ++ [T R C h w i j] := by
  have h1 : (i * pt C w + j) / pt C w = i := by rw [Nat.mul_comm, Nat.mul_add_div (by omega), Nat.div_eq_of_lt hj, Nat.add_zero]
  have h2 : (i * pt C w + j) % pt C w = j := by rw [Nat.mul_comm, Nat.mul_add_mod, Nat.mod_eq_of_lt hj]
  unfold tl
  rw [← Nat.add_assoc, List.range_succ, List.map_append, List.map_cons, List.map_nil, h1, h2]
theorem tl_len (R C h w m : Nat) : (tl R C h w m).length = m := by simp [tl]
theorem mn_nat (a b : Nat) : mn (a : Int) (b : Int) = ((min a b : Nat) : Int) := by unfold mn; omega
theorem mul_w {i h n : Nat} (hn : n ≤ 256) (hi : i * h ≤ n - 1) : wrap64 ((i : Int) * (h : Int)) = ((i * h : Nat) : Int) := by
  rw [← Int.natCast_mul]
  generalize i * h = z at *
  unfold wrap64
  omega
theorem sub_w {R z : Nat} (hR : 1 ≤ R) (hn : R ≤ 256) (hz : z ≤ R - 1) : wrap64 ((R : Int) - (z : Int)) = ((R - z : Nat) : Int) := by unfold wrap64; omega
theorem wrap_small (z : Nat) (h : z ≤ 65536) : wrap64 (z : Int) = (z : Int) := by unfold wrap64; omega
theorem quo_ok (p q : Nat) (hp : p ≤ 256) (h1 : 1 ≤ q) (h2 : q ≤ 256) : ¬ ((p : Int) > wrap64 (Int.tdiv (65536 : Int) (q : Int))) := by
  have h3 : 256 ≤ 65536 / q := (Nat.le_div_iff_mul_le (by omega)).2 (by omega)
  have h4 : 65536 / q ≤ 65536 := Nat.div_le_self _ _
  have e : Int.tdiv (65536 : Int) (q : Int) = ((65536 / q : Nat) : Int) := Int.ofNat_tdiv 65536 q
  rw [e, wrap_small _ h4]
  generalize 65536 / q = z at *
  omega
set_option linter.unusedSectionVars false
section
variable (R C h w : Nat) (hR : 1 ≤ R) (hC : 1 ≤ C) (hh : 1 ≤ h) (hw : 1 ≤ w) (hR2 : R ≤ 256) (hC2 : C ≤ 256)
include hR hC hh hw hR2 hC2
theorem line_ (r : List S38 × Int) (i : Nat) (hi : i < pt R h) (hnext : Ev (fun k => shape_Tiles.l0 k h w (tl R C h w ((i + 1) * pt C w)) (pt R h : Nat) ((i + 1 : Nat) : Int) R C) r) (d : Nat) :
    ∀ j : Nat, j + d = pt C w → Ev (fun k => shape_Tiles.l1 k h w (tl R C h w (i * pt C w + j)) i (pt R h : Nat) i (pt C w : Nat) j R C) r := by
  have hp := pt_le (h := h) hR
  have hq := pt_le (h := w) hC
  induction d with
  | zero =>
    intro j hj
    obtain rfl : j = pt C w := by omega
    have q1 : ¬ (((pt C w : Nat) : Int) < ((pt C w : Nat) : Int)) := by omega
    have n1 := next_i i (pt R h) hi (by omega)
    refine Ev.step (f := fun k => shape_Tiles.l0 k h w (tl R C h w ((i + 1) * pt C w)) (pt R h : Nat) ((i + 1 : Nat) : Int) R C) (fun k => ?_) hnext
    simp only [shape_Tiles.l1]
    rw [if_neg q1, n1, Nat.add_mul, Nat.one_mul]
  | succ d ih =>
    intro j hj
    have hj2 : j < pt C w := by omega
    have q1 : ((j : Nat) : Int) < ((pt C w : Nat) : Int) := by omega
    have h1 := pt_mul (h := h) hR hi
    have h2 := pt_mul (h := w) hC hj2
    have hm : i * pt C w + j ≤ 65536 := by
      have h3 : i * pt C w ≤ 255 * 256 := Nat.mul_le_mul (by omega) (by omega)
      omega
    have q2 : (tl R C h w (i * pt C w + j)).length < 4398046511104 := by rw [tl_len]; omega
    have hs := ih (j + 1) (by omega)
    rw [tl_succ R C h w i j hj2] at hs
    have n1 := next_i j (pt C w) hj2 (by omega)
    have e1 := mul_w hR2 h1
    have e2 := mul_w hC2 h2
    have e3 := sub_w hR hR2 h1
    have e4 := sub_w hC hC2 h2
    refine Ev.step (f := fun k => shape_Tiles.l1 k h w (tl R C h w (i * pt C w + j) ++ [T R C h w i j]) i (pt R h : Nat) i (pt C w : Nat) ((j + 1 : Nat) : Int) R C) (fun k => ?_) hs
    simp only [shape_Tiles.l1]
    rw [if_pos q1, if_pos q2, e1, e2, e3, e4, mn_nat, mn_nat, n1]
    rfl
theorem rows_ (d : Nat) : ∀ i : Nat, i + d = pt R h → Ev (fun k => shape_Tiles.l0 k h w (tl R C h w (i * pt C w)) (pt R h : Nat) i R C) (tl R C h w (pt R h * pt C w), 0) := by
  induction d with
  | zero =>
    intro i hi
    obtain rfl : i = pt R h := by omega
    have q1 : ¬ (((pt R h : Nat) : Int) < ((pt R h : Nat) : Int)) := by omega
    refine Ev.step (f := fun _ => some (tl R C h w (pt R h * pt C w), 0)) (fun k => ?_) (Ev.now _)
    simp only [shape_Tiles.l0]
    rw [if_neg q1]
  | succ d ih =>
    intro i hi
    have hi2 : i < pt R h := by omega
    have q1 : ((i : Nat) : Int) < ((pt R h : Nat) : Int) := by omega
    have hpar := parts_f C w hC hC2 hw
    refine Ev.step (f := fun k => shape_Tiles.l1 k h w (tl R C h w (i * pt C w)) i (pt R h : Nat) i (pt C w : Nat) ((0 : Nat) : Int) R C) (fun k => ?_) (line_ R C h w hR hC hh hw hR2 hC2 _ i hi2 (ih (i + 1) (by omega)) (pt C w) 0 (by omega))
    simp only [shape_Tiles.l0]
    rw [if_pos q1, hpar]
    rfl
theorem tiles_ok (hg : GoodS (R : Int) (C : Int)) (hRC : R * C ≤ 256) : Ev (fun k => shape_Tiles.f k R C h w) (tl R C h w (pt R h * pt C w), 0) := by
  have hp := pt_le (h := h) hR
  have hq := pt_le (h := w) hC
  have a1 : ¬ ((h : Int) < 1) := by omega
  have a2 : decide ((w : Int) < 1) = false := decide_eq_false (by omega)
  have p1 := parts_f R h hR hR2 hh
  have p2 := parts_f C w hC hC2 hw
  have hgy := good_yes R C hg
  have hq1 : 1 ≤ pt C w := Nat.le_add_left 1 _
  have a3 : ¬ (((pt C w : Nat) : Int) = 0) := by omega
  have a4 := quo_ok (pt R h) (pt C w) (by omega) hq1 (by omega)
  unfold shape_Tiles.f
  refine Ev_ifn a1 ?_
  rw [a2]
  have hr := rows_ R C h w hR hC hh hw hR2 hC2 (pt R h) 0 (by omega)
  rw [Nat.zero_mul] at hr
  refine Ev.step (f := fun k => (shape_Good.f (R : Int) (C : Int)).bind fun t102 => if t102 = true then ((shape_parts.f (R : Int) (h : Int)).bind fun t103 => ((shape_parts.f (C : Int) (w : Int)).bind fun t104 => if t104 = 0 then none else if t103 > wrap64 (Int.tdiv (65536 : Int) t104) then some (([] : List S38), (14 : Int)) else ((shape_parts.f (R : Int) (h : Int)).bind fun t105 => shape_Tiles.l0 k h w ([] : List S38) t105 0 R C))) else some (([] : List S38), (2 : Int))) (fun k => ?_) ?_
  · simp only [shape_Tiles.j0]
    rw [if_neg (by decide)]
  · exact Ev.bind (Ev_eq hgy) (Ev_if rfl (Ev.bind (Ev_eq p1) (Ev.bind (Ev_eq p2) (Ev_ifn a3 (Ev_ifn a4 (Ev.bind (Ev_eq p1) hr))))))
end
theorem tiles_arg (r c h w : Int) (hh : h < 1 ∨ w < 1) : Ev (fun k => shape_Tiles.f k r c h w) ([], 1) := by
  unfold shape_Tiles.f
  by_cases h1 : h < 1
  · refine Ev_if h1 (Ev.step (f := fun _ => some (([] : List S38), (1 : Int))) (fun k => ?_) (Ev.now _))
    simp only [shape_Tiles.j0]
    rfl
  · refine Ev_ifn h1 (Ev.step (f := fun _ => some (([] : List S38), (1 : Int))) (fun k => ?_) (Ev.now _))
    rw [decide_eq_true (show w < 1 by omega)]
    simp only [shape_Tiles.j0]
    rfl
theorem tiles_odd (r c h w : Int) (h1 : ¬ h < 1) (h2 : ¬ w < 1) (hg : ¬ GoodS r c) : Ev (fun k => shape_Tiles.f k r c h w) ([], 2) := by
  have hgn := good_no r c hg
  unfold shape_Tiles.f
  refine Ev_ifn h1 (Ev.step (f := fun _ => some (([] : List S38), (2 : Int))) (fun k => ?_) (Ev.now _))
  rw [decide_eq_false h2]
  simp only [shape_Tiles.j0]
  rw [hgn]
  rfl
end Go.Proofs.YthppiphldaopnaaDoor.Tiles
