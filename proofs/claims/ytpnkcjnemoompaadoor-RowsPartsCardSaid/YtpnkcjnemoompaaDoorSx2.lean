import Derived.Test.YtpnkcjnemoompaaDoorSx1
import Derived.Test.YtpnkcjnemoompaaDoorProg
import Derived.Below
import Derived.Deep.Draws
import Derived.Deep.AppendLies
import Derived.Maps.AppendAt
import Derived.OwnWalk
import Derived.Laws.BytesArg
import Derived.Laws.MakeOwn
import Derived.Laws.OwnMore
import Derived.Deep.OwnRows
import Derived.Tactics
import Derived.Lib.ConvBytes
import Derived.Laws.Slices
import Derived.WalkKit
import Derived.KernelRfl
import Derived.RowKit3
import Derived.Deep.LoopGhost
import Derived.Deep.QuietTactic
import Derived.BigQuiet
import Derived.WideLaws
import Derived.Deep.DeepCutAuto
import Derived.Deep.CutBlock
import Derived.Deep.RegionHeld3
import Derived.Laws.Rows
import Derived.Lib.AppendStr
import Derived.ArgAppend
import Derived.Laws.IdiomCopy
import Derived.OrdersHeld
import Derived.Laws.BitsLemmas
import Derived.RowKit
import Derived.Shelf.Spec.TrailingZeros
import Derived.Lib.LaidTab
import Derived.Lib.Hide
import Derived.Shelf.Strings.Builder1
import Derived.Shelf.Strings.Builder2
import Derived.Shelf.Strings.OnBuilder
import Derived.Shelf.Strings.BuilderF
import Derived.Shelf.Strings.BuilderK
import Derived.Shelf.Strings.Builder2Cap
import Derived.Shelf.Strconv.Itoa0
import Derived.Shelf.Strconv.Itoa1
import Derived.Shelf.LaysM
import Derived.Shelf.Strconv.Itoa2
import Derived.Shelf.Strconv.Itoa3
import Derived.Shelf.Bits.Mul64
import Derived.Shelf.Strings.BuilderCap
import Derived.Ground.SlgnProg
import Derived.Shelf.SlicesE.Clone
import Derived.Ground.SlgfProg
import Derived.Shelf.SlicesE.IndexFunc
import Derived.Laws.StructEq
import Derived.Shelf.Spec.BitsCarry
import Derived.Laws.BitsAllLaws
import Derived.OpenShut
/-! Texts of this claim, joined: PFftx3, PFftx5, PFftx6, PFftx10, Nums, FftA, FftB, FldA, FldB, FldC. -/
section
namespace Go.Proofs.YtpnkcjnemoompaaDoor.PFft
open Go.RowKit Go.Proofs.YtpnkcjnemoompaaDoor.Ext Go.Proofs.YtpnkcjnemoompaaDoor.PPlan Go.Proofs.YtpnkcjnemoompaaDoorW.PrintWords Go.Proofs.YtpnkcjnemoompaaDoorW.PrintLast Go.Proofs.YtpnkcjnemoompaaDoorW.PrintMore
attribute [local go_sem] max2_int min2_int max_two min_two max_three min_three max_four min_four   -- for this text's walks alone
set_option linter.unusedVariables false
set_option linter.unusedSimpArgs false
mutual
def root_Powers.j0 : Nat → Int → Int → Bool → Option (List Int × Int)
  | 0, _, _, _ => none
  | k + 1, x0, x1, x14 => if x14 = true then (some (([] : List Int), 1)) else (if 0 ≤ x1 then (if (x1 : Int).toNat ≤ 35184372088832 then ((some (List.replicate (x1 : Int).toNat 0 : List Int)).bind fun y143 => (root_Powers.l0 k x0 y143 1 (y143.length : Int) 0)) else (none)) else (none))
def root_Powers.l0 : Nat → Int → List Int → Int → Int → Int → Option (List Int × Int)
  | 0, _, _, _, _, _ => none
  | k + 1, x0, x6, x7, x18, x19 => if x19 < x18 then (if 0 ≤ x19 then (if x19 < (x6.length : Int) then ((gold_Mul.f x7 x0).bind fun t147 => (root_Powers.l0 k x0 (x6.set (x19 : Int).toNat x7) t147 x18 (wrap64 (x19 + 1)))) else (none)) else (none)) else (some (x6, 0))
end
def root_Powers.f (k : Nat) (a0 : Int) (a1 : Int) : Option (List Int × Int) := if a1 < 0 then (root_Powers.j0 k a0 a1 true) else (root_Powers.j0 k a0 a1 (decide (a1 > 1048576)))
set_option maxHeartbeats 8000000 in
set_option maxRecDepth 100000 in
theorem root_Powers.calls (k : Nat) (a0 : Int) (a1 : Int) (r1 : List Int) (r2 : Int) (w : World) (h : root_Powers.f k a0 a1 = some (r1, r2)) :
    Calls Tryd.prog 168 #[.int .u64 a0, .int .i64 a1] w fun e w' => ∃ v0_ : Value, e = .returned (.tuple #[v0_, .int .i64 r2]) ∧ Kd.R (Kd.int .u64) 45 w' w.heap.size (fun _ => True) v0_ r1 ∧ Below w.heap.size w w' := by
  have HB := Aside0.mk (Below.refl w.heap.size w)
  have H : (if a1 < 0 then (root_Powers.j0 k a0 a1 true) else (root_Powers.j0 k a0 a1 (decide (a1 > 1048576)))) = some (r1, r2) := h
  clear h
  have HC3 := Aside0.mk H
  clear H
  go_enter Tryd.func168, Tryd.ntmps168
  go_upto_region 1 with (fail)
  go_cut [14] (fun v14 wc => ∃ (kq : Nat) (x14_2 : Bool), v14 = .bool x14_2 ∧ Aside0 (root_Powers.j0 kq a0 a1 x14_2 = some (r1, r2)) ∧ Aside0 (kq ≤ k) ∧ Aside0 (Below w.heap.size w wc))
  case first =>
    have H := HC3.out
    clear HC3
    by_cases c4 : a1 < 0
    · rw [if_pos c4] at H
      have c4b0 : decide (a1 < 0) = true := decide_eq_true c4
      clear c4
      (first | rw [c4b0] | (simp only [i64_w, i32_w]; rw [c4b0]) | skip)
      have H' := Aside0.mk H
      clear H
      go_wp2
      go_meet
      case rel => exact ⟨_, (true), (by first | rfl | (simp; done) | (simp [*]; done)), H', ⟨by first | omega | exact Nat.le_refl _⟩, ⟨by repeat (first | (with_reducible first | exact HB.out | apply below_alloc | apply pw_below_drewN | apply below_drew1) | exact HB.out)⟩⟩
    · rw [if_neg c4] at H
      have c4b0 : decide (a1 < 0) = false := decide_eq_false c4
      clear c4
      (first | rw [c4b0] | (simp only [i64_w, i32_w]; rw [c4b0]) | skip)
      have H' := Aside0.mk H
      clear H
      go_wp2
      go_meet
      case rel => exact ⟨_, (decide (a1 > 1048576)), (by first | rfl | (simp; done) | (simp [*]; done)), H', ⟨by first | omega | exact Nat.le_refl _⟩, ⟨by repeat (first | (with_reducible first | exact HB.out | apply below_alloc | apply pw_below_drewN | apply below_drew1) | exact HB.out)⟩⟩
  case rest =>
    clear HC3
    try clear c1
    try clear p2
    try clear c4
    try clear c4b0
    obtain ⟨kq, x14_2, rfl, HA, HJ2, HB⟩ := hcut
    cases kq with
    | zero => exact absurd HA.out (by simp [root_Powers.j0])
    | succ kj2 =>
      have H := HA.out
      clear HA
      simp only [root_Powers.j0] at H
      by_cases c5 : x14_2 = true
      · subst c5
        have H1 : (some (([] : List Int), 1)) = some (r1, r2) := by rw [if_pos rfl] at H; exact H
        clear H
        have H := H1
        clear H1
        simp only [Option.some.injEq, Prod.mk.injEq] at H
        obtain ⟨rfl, rfl⟩ := H
        go_wp2
        go_ret2
        exact ⟨_, by first | rfl | (simp [errW_none, errW_some] <;> rfl) | (simp [*, errW_none, errW_some] <;> rfl), by first | exact Kd.R_nil _ _ _ _ _ | exact Kd.N_nil _ _ _ _ _ | exact Kd.V_nil _ _ _ _ _ | exact Kd.Q_nil _ _ _ _ _ | exact Kd.S_nil _ _ _ _ _, by repeat (first | (with_reducible first | exact HB.out | apply below_alloc | apply pw_below_drewN | apply below_drew1) | exact HB.out)⟩
      · replace c5 := Bool.eq_false_iff.mpr c5
        subst c5
        have H1 : (if 0 ≤ a1 then (if (a1 : Int).toNat ≤ 35184372088832 then ((some (List.replicate (a1 : Int).toNat 0 : List Int)).bind fun y143 => (root_Powers.l0 kj2 a0 y143 1 (y143.length : Int) 0)) else (none)) else (none)) = some (r1, r2) := by rw [if_neg (show ¬ (false = true) by decide)] at H; exact H
        clear H
        have H := H1
        clear H1
        by_cases c6 : 0 ≤ a1
        · rw [if_pos c6] at H
          have c6b0 := eq_true c6
          have c6b1 : decide (0 ≤ a1) = true := decide_eq_true c6
          clear c6
          by_cases c7 : (a1 : Int).toNat ≤ 35184372088832
          · rw [if_pos c7] at H
            have c7b0 := eq_true c7
            have c7b1 : decide ((a1 : Int).toNat ≤ 35184372088832) = true := decide_eq_true c7
            clear c7
            obtain ⟨y143, hy143⟩ : ∃ y_ : List Int, y_ = (List.replicate (a1 : Int).toNat 0) := ⟨_, rfl⟩
            replace H : (root_Powers.l0 kj2 a0 y143 1 (y143.length : Int) 0) = some (r1, r2) := by first | (rw [hy143]; with_reducible exact H) | (have H2_ := (Option.bind_some _ _).symm.trans H; rw [hy143]; with_reducible exact H2_) | (have H2_ := (Option.bind_some _ _).symm.trans H; with_reducible exact H2_) | with_reducible exact H | (rw [hy143]; exact H) | exact H
            have Ny143 := Aside0.mk hy143
            clear hy143
            have H' := Aside0.mk H
            clear H
            go_wp2_with (first | ((with_reducible refine gate_dst (N := 16) rfl ?_); refine Kd.R_make (Kd.int .u64) _ 45 rfl (N := 16) rfl 24 _ _ rfl a1 rfl rfl Tryd.underlying24 (.int .u64 0) 8 info45 rfl (by decide) (by omega) 0 (ok := fun _ => True) (okp := fun _ => True) rfl (fun _ hk => hk) trivial (of_decide_eq_true (by first | (with_reducible assumption) | assumption)) (Nat.le_trans (Nat.mul_le_mul_right _ (of_decide_eq_true (by first | (with_reducible assumption) | assumption) : a1.toNat ≤ 35184372088832)) (by omega)) (Below.refl _ _) (Nat.le_refl _) ?_; intro v144 w8 ho9 hb hg_ hnew_; clear hg_ hnew_; (first | rw [← Ny143.out] at ho9 | (simp only [Int.reduceToNat] at ho9; rw [← Ny143.out] at ho9)); have n0_ := Aside0.mk (Kd.R_lower ho9 (below_size (by repeat (first | (with_reducible first | exact HB.out | apply below_alloc | apply pw_below_drewN | apply below_drew1) | exact HB.out)))); have n1_ := Aside0.mk (below_step (by repeat (first | (with_reducible first | exact HB.out | apply below_alloc | apply pw_below_drewN | apply below_drew1) | exact HB.out)) hb); clear HB; have HO145 := n0_; have HB := n1_; clear n0_ n1_; clear hb ho9; obtain ⟨Ao10, co10, eo10⟩ := Kd.R_slice HO145.out; subst eo10))
            go_loopg [7, 19] kj2 (fun kq v7 v19 w' => ∃ (x6_2 : List Int) (x7_2 : Int) (x19_2 : Int), v7 = .int .u64 x7_2 ∧ v19 = .int .i64 x19_2 ∧ Aside0 (root_Powers.l0 kq a0 x6_2 x7_2 (y143.length : Int) x19_2 = some (r1, r2)) ∧ Aside0 (kq ≤ kj2) ∧ Aside0 (Kd.R (Kd.int .u64) 45 w' w.heap.size (fun _ => True) (.slice Ao10 y143.length co10) x6_2) ∧ Aside0 (Below w.heap.size w w'))
            case atStart => exact ⟨(y143), (1), (0), (by first | rfl | (simp; done) | (simp [*]; done)), (by first | rfl | (simp; done) | (simp [*]; done)), H', ⟨Nat.le_refl _⟩, ⟨by (with_reducible repeat (first | apply Kd.R_alloc | apply Kd.R_drewN | apply Kd.R_drew)); exact HO145.out⟩, ⟨by repeat (first | (with_reducible first | exact HB.out | apply below_alloc | apply pw_below_drewN | apply below_drew1) | exact HB.out)⟩⟩
            case round =>
              clear H'
              try clear c1
              try clear p2
              try clear c4
              try clear c4b0
              try clear c5
              try clear c6
              try clear c6b0
              try clear c6b1
              try clear c7
              try clear c7b0
              try clear c7b1
              try clear p2
              obtain ⟨x6_2, x7_2, x19_2, rfl, rfl, HA, HK2, HO_6, HB⟩ := hrel
              have hl6_2 := (Kd.R_reads' HO_6.out).1
              rw [hl6_2] at HO_6
              (try simp only [hl6_2])
              cases gk with
              | zero => exact absurd HA.out (by simp [root_Powers.l0])
              | succ k2 =>
                have H := HA.out
                clear HA
                simp only [root_Powers.l0] at H
                by_cases c11 : x19_2 < (y143.length : Int)
                · rw [if_pos c11] at H
                  have c11b0 : decide (x19_2 < (y143.length : Int)) = true := decide_eq_true c11
                  clear c11
                  by_cases c12 : 0 ≤ x19_2
                  · rw [if_pos c12] at H
                    have c12b0 : decide (0 ≤ x19_2) = true := decide_eq_true c12
                    clear c12
                    by_cases c13 : x19_2 < (x6_2.length : Int)
                    · rw [if_pos c13] at H
                      have c13b0 : decide (x19_2 < (x6_2.length : Int)) = true := decide_eq_true c13
                      clear c13
                      obtain ⟨y146, hy146⟩ : ∃ y_ : List Int, y_ = (x6_2.set (x19_2 : Int).toNat x7_2) := ⟨_, rfl⟩
                      replace H : ((gold_Mul.f x7_2 a0).bind fun t147 => (root_Powers.l0 k2 a0 y146 t147 (y143.length : Int) (wrap64 (x19_2 + 1)))) = some (r1, r2) := by first | (rw [hy146]; with_reducible exact H) | (have H2_ := (Option.bind_some _ _).symm.trans H; rw [hy146]; with_reducible exact H2_) | (have H2_ := (Option.bind_some _ _).symm.trans H; with_reducible exact H2_) | with_reducible exact H | (rw [hy146]; exact H) | exact H
                      have Ny146 := Aside0.mk hy146
                      clear hy146
                      replace H := Option.bind_eq_some_iff.mp H
                      obtain ⟨t147, A150, H⟩ := H
                      replace H : (root_Powers.l0 k2 a0 y146 t147 (y143.length : Int) (wrap64 (x19_2 + 1))) = some (r1, r2) := H
                      have A15 := Aside0.mk A150
                      clear A150
                      have H' := Aside0.mk H
                      clear H
                      have p14 : 0 ≤ (x19_2 : Int) := of_decide_eq_true (by first | (with_reducible assumption) | assumption)
                      have q14 : (x19_2 : Int) < ((x6_2.length : Int) : Int) := of_decide_eq_true (by first | (with_reducible assumption) | assumption)
                      obtain ⟨go14, co14, eo14, gb14, gl14, cl14, HG14⟩ := Kd.R_form HO_6.out (by omega)
                      (first | cases eo14 | (injection eo14 with ea_ en_ ec_; (first | subst ea_ | (injection ea_ with ea_; subst ea_)); subst ec_; clear en_))
                      have GB14 := Aside0.mk gb14
                      have GG14 := Aside0.mk HG14
                      clear gb14 gl14 HG14
                      obtain ⟨hx14_0, hf14_0⟩ := Kd.R_celln 0 HO_6.out (x19_2 : Int) p14 q14
                      replace p14 := eq_true p14
                      replace q14 := eq_true q14
                      have HP16 := Kd.R_putg HO_6.out (x19_2 : Int) x7_2
                      go_wp2_with (first | ((with_reducible refine gate_store (t := 45) (p := 25) rfl ?_); refine store_event (t := 45) (p := 25) (v := ?vo_w17) (w1 := (wr.setCell ⟨go14, (x19_2 : Int).toNat, none⟩ (.int .u64 x7_2))) ?hg ?ho ?hn ?hr ?_; (case ho => rfl); (case hg => rfl); (case hn => rfl); (case hr => first | (go_simp; done) | (go_simp; rfl)); intro w17 hw; have hg : wr.grownBy w17 (some go14) := (by rw [hw]; exact HP16.2); have hp_ : Kd.R (Kd.int .u64) 45 w17 w.heap.size (fun _ => True) (.slice (some ⟨go14, 0, none⟩) x6_2.length co10) y146 := (by rw [hw, Ny146.out]; exact HP16.1); clear HP16; have n0_ := Aside0.mk (hp_); have n1_ := Aside0.mk ((by rw [hw]; exact below_set (HB.out) GB14.out : Below w.heap.size w w17)); clear HO_6; clear HB; have HO_6 := n0_; have HB := n1_; clear n0_ n1_; clear hg hw hp_) | ((with_reducible refine gate_callee (f := 77) rfl ?_); refine goesL_ (some 28) rfl rfl Tryd.func77 (by kernel_rfl) rfl #[.int .u64 x7_2, .int .u64 a0] rfl (by (try simp only [List.map_toArray, List.map_cons, List.map_nil]); first | done | rfl | (simp only [List.length_drop, List.length_take]; rfl)) ?_; (with_reducible refine (gold_Mul.calls x7_2 a0 t147 _ A15.out).mono ?_); rintro e w18 ⟨rfl, hb⟩; refine ⟨_, rfl, ?_⟩; have n0_ := Aside0.mk (Kd.R_below (by (with_reducible repeat (first | apply Kd.R_alloc | apply Kd.R_drewN | apply Kd.R_drew)); exact HO_6.out) hb); have n1_ := Aside0.mk (below_step (by repeat (first | (with_reducible first | exact HB.out | apply below_alloc | apply pw_below_drewN | apply below_drew1) | exact HB.out)) hb); clear HO_6; clear HB; have HO_6 := n0_; have HB := n1_; clear n0_ n1_; (try clear hb); (try clear hb2); (try clear hk); (try clear hi)))
                      (try simp only [← hl6_2])
                      go_roundg k2
                      case measure => have := HJ2.out; have := HK2.out; omega
                      case rel => exact ⟨(y146), (t147), (wrap64 (x19_2 + 1)), (by first | rfl | (simp; done) | (simp [*]; done)), (by first | rfl | (simp; done) | (simp [*]; done)), H', ⟨by have := HJ2.out; have := HK2.out; omega⟩, ⟨by (try simp only [hl6_2]); (with_reducible repeat (first | apply Kd.R_alloc | apply Kd.R_drewN | apply Kd.R_drew)); exact HO_6.out⟩, ⟨by repeat (first | (with_reducible first | exact HB.out | apply below_alloc | apply pw_below_drewN | apply below_drew1) | exact HB.out)⟩⟩
                    · rw [if_neg c13] at H
                      exact absurd H (by simp)
                  · rw [if_neg c12] at H
                    exact absurd H (by simp)
                · rw [if_neg c11] at H
                  have c11b0 : decide (x19_2 < (y143.length : Int)) = false := decide_eq_false c11
                  rw [hl6_2] at c11b0
                  clear c11
                  simp only [Option.some.injEq, Prod.mk.injEq] at H
                  obtain ⟨rfl, rfl⟩ := H
                  go_wp2
                  go_ret2
                  exact ⟨_, by first | rfl | (simp [errW_none, errW_some] <;> rfl) | (simp [*, errW_none, errW_some] <;> rfl), by (with_reducible repeat (first | apply Kd.R_alloc | apply Kd.R_drewN | apply Kd.R_drew)); exact HO_6.out, by repeat (first | (with_reducible first | exact HB.out | apply below_alloc | apply pw_below_drewN | apply below_drew1) | exact HB.out)⟩
          · rw [if_neg c7] at H
            exact absurd H (by simp)
        · rw [if_neg c6] at H
          exact absurd H (by simp)
def twid_Table.f (k : Nat) (a0 : Int) (a1 : Int) : Option (List Int × Int) := (twid_Root.f k a0 a1).bind fun bt148 => (if bt148.2 = 0 then (if a0 > 20 then (some (([] : List Int), 14)) else (if 0 ≤ (IntKind.u64.wrap (a0)) then ((root_Powers.f k bt148.1 (mx ((shl .i64 1 (IntKind.u64.wrap (a0))) / 2) 1)).bind fun bt150 => (some (bt150.1, bt150.2))) else (none))) else (some (([] : List Int), bt148.2)))
set_option maxHeartbeats 8000000 in
set_option maxRecDepth 100000 in
theorem twid_Table.calls (k : Nat) (a0 : Int) (a1 : Int) (r1 : List Int) (r2 : Int) (w : World) (h : twid_Table.f k a0 a1 = some (r1, r2)) :
    Calls Tryd.prog 162 #[.int .i64 a0, .int .i64 a1] w fun e w' => ∃ v0_ : Value, e = .returned (.tuple #[v0_, .int .i64 r2]) ∧ Kd.R (Kd.int .u64) 45 w' w.heap.size (fun _ => True) v0_ r1 ∧ Below w.heap.size w w' := by
  have HB := Aside0.mk (Below.refl w.heap.size w)
  have H : ((twid_Root.f k a0 a1).bind fun bt148 => (if bt148.2 = 0 then (if a0 > 20 then (some (([] : List Int), 14)) else (if 0 ≤ (IntKind.u64.wrap (a0)) then ((root_Powers.f k bt148.1 (mx ((shl .i64 1 (IntKind.u64.wrap (a0))) / 2) 1)).bind fun bt150 => (some (bt150.1, bt150.2))) else (none))) else (some (([] : List Int), bt148.2)))) = some (r1, r2) := h
  clear h
  replace H := Option.bind_eq_some_iff.mp H
  obtain ⟨⟨t148, t149⟩, A30, H⟩ := H
  replace H : (if t149 = 0 then (if a0 > 20 then (some (([] : List Int), 14)) else (if 0 ≤ (IntKind.u64.wrap (a0)) then ((root_Powers.f k t148 (mx ((shl .i64 1 (IntKind.u64.wrap (a0))) / 2) 1)).bind fun bt150 => (some (bt150.1, bt150.2))) else (none))) else (some (([] : List Int), t149))) = some (r1, r2) := H
  have A3 := Aside0.mk A30
  clear A30
  by_cases c4 : t149 = 0
  · rw [if_pos c4] at H
    have c4b0 : (t149 == 0) = true := beq_iff_eq.mpr c4
    have c4b1 : (t149 != 0) = false := bne_eq_false_iff_eq.mpr c4
    clear c4
    by_cases c5 : a0 > 20
    · rw [if_pos c5] at H
      have c5b0 : decide (20 < a0) = true := decide_eq_true c5
      clear c5
      simp only [Option.some.injEq, Prod.mk.injEq] at H
      obtain ⟨rfl, rfl⟩ := H
      go_enter Tryd.func162, Tryd.ntmps162
      go_wp2_with (first | ((with_reducible refine gate_callee (f := 119) rfl ?_); refine goesL_ (some 11) rfl rfl Tryd.func119 (by kernel_rfl) rfl #[.int .i64 a0, .int .i64 a1] rfl (by (try simp only [List.map_toArray, List.map_cons, List.map_nil]); first | done | rfl | (simp only [List.length_drop, List.length_take]; rfl)) ?_; (with_reducible refine (twid_Root.calls k a0 a1 t148 t149 _ A3.out).mono ?_); rintro e w6 ⟨rfl, hb⟩; refine ⟨_, rfl, ?_⟩; have n0_ := Aside0.mk (below_step (by repeat (first | (with_reducible first | exact HB.out | apply below_alloc | apply pw_below_drewN | apply below_drew1) | exact HB.out)) hb); clear HB; have HB := n0_; clear n0_; (try clear hb); (try clear hb2); (try clear hk); (try clear hi)))
      go_ret2
      exact ⟨_, by first | rfl | (simp [errW_none, errW_some] <;> rfl) | (simp [*, errW_none, errW_some] <;> rfl), by first | exact Kd.R_nil _ _ _ _ _ | exact Kd.N_nil _ _ _ _ _ | exact Kd.V_nil _ _ _ _ _ | exact Kd.Q_nil _ _ _ _ _ | exact Kd.S_nil _ _ _ _ _, by repeat (first | (with_reducible first | exact HB.out | apply below_alloc | apply pw_below_drewN | apply below_drew1) | exact HB.out)⟩
    · rw [if_neg c5] at H
      have c5b0 : decide (20 < a0) = false := decide_eq_false c5
      clear c5
      obtain ⟨ji7, hji7⟩ : ∃ j_ : Int, (IntKind.u64.wrap (a0)) = j_ := ⟨_, rfl⟩
      replace H : (if 0 ≤ (ji7) then ((root_Powers.f k t148 (mx ((shl .i64 1 (ji7)) / 2) 1)).bind fun bt150 => (some (bt150.1, bt150.2))) else (none)) = some (r1, r2) := by first | (rw [hji7] at H; exact H) | (simp only [hji7] at H ⊢; exact H)
      (try rw [hji7] at A3)
      by_cases c8 : 0 ≤ (ji7)
      · rw [if_pos c8] at H
        have c8b0 := eq_true c8
        have c8b1 : decide (0 ≤ (ji7)) = true := decide_eq_true c8
        clear c8
        obtain ⟨ji9, hji9⟩ : ∃ j_ : Int, (shl .i64 1 (ji7)) = j_ := ⟨_, rfl⟩
        replace H : ((root_Powers.f k t148 (mx ((ji9) / 2) 1)).bind fun bt150 => (some (bt150.1, bt150.2))) = some (r1, r2) := by first | (rw [hji9] at H; exact H) | (simp only [hji9] at H ⊢; exact H)
        (try rw [hji9] at A3)
        have hji9_ : (IntKind.i64.wrap (1 * 2 ^ min (ji7).toNat 64)) = ji9 := hji9
        have hji9z : (ji7) ≤ 64 → (IntKind.i64.wrap (1 * 2 ^ (ji7).toNat)) = ji9 := shl_small hji9
        have hji9u : (IntKind.i64.wrap (2 ^ min (ji7).toNat 64)) = ji9 := by have h_ := hji9_; rw [Int.one_mul] at h_; exact h_
        have hji9v : (ji7) ≤ 64 → (IntKind.i64.wrap (2 ^ (ji7).toNat)) = ji9 := fun hle_ => by have h_ := hji9z hle_; rw [Int.one_mul] at h_; exact h_
        have hji9y : (wrap64 (1 * 2 ^ min (ji7).toNat 64)) = ji9 := (i64_w _).symm.trans hji9_
        have hji9x : (ji7) ≤ 64 → (wrap64 (1 * 2 ^ (ji7).toNat)) = ji9 := fun h_ => (i64_w _).symm.trans (hji9z h_)
        obtain ⟨ji10, hji10⟩ : ∃ j_ : Int, (mx ((ji9) / 2) 1) = j_ := ⟨_, rfl⟩
        replace H : ((root_Powers.f k t148 (ji10)).bind fun bt150 => (some (bt150.1, bt150.2))) = some (r1, r2) := by first | (rw [hji10] at H; exact H) | (simp only [hji10] at H ⊢; exact H)
        (try rw [hji10] at A3)
        have hji10_ : (if ((ji9) / 2) < 1 then 1 else ((ji9) / 2)) = ji10 := hji10
        replace H := Option.bind_eq_some_iff.mp H
        obtain ⟨⟨t150, t151⟩, A110, H⟩ := H
        replace H : (some (t150, t151)) = some (r1, r2) := H
        have A11 := Aside0.mk A110
        clear A110
        simp only [Option.some.injEq, Prod.mk.injEq] at H
        obtain ⟨rfl, rfl⟩ := H
        go_enter Tryd.func162, Tryd.ntmps162
        go_wp2_with (first | ((with_reducible refine gate_callee (f := 119) rfl ?_); refine goesL_ (some 11) rfl rfl Tryd.func119 (by kernel_rfl) rfl #[.int .i64 a0, .int .i64 a1] rfl (by (try simp only [List.map_toArray, List.map_cons, List.map_nil]); first | done | rfl | (simp only [List.length_drop, List.length_take]; rfl)) ?_; (with_reducible refine (twid_Root.calls k a0 a1 t148 t149 _ A3.out).mono ?_); rintro e w12 ⟨rfl, hb⟩; refine ⟨_, rfl, ?_⟩; have n0_ := Aside0.mk (below_step (by repeat (first | (with_reducible first | exact HB.out | apply below_alloc | apply pw_below_drewN | apply below_drew1) | exact HB.out)) hb); clear HB; have HB := n0_; clear n0_; (try clear hb); (try clear hb2); (try clear hk); (try clear hi)) | ((with_reducible refine gate_callee (f := 168) rfl ?_); refine goesL_ (some 27) rfl rfl Tryd.func168 (by kernel_rfl) rfl #[.int .u64 t148, .int .i64 ji10] rfl (by (try simp only [List.map_toArray, List.map_cons, List.map_nil]); first | done | (simp only [hji10]; rfl) | rfl | (simp only [List.length_drop, List.length_take]; rfl)) ?_; (with_reducible refine (root_Powers.calls k t148 ji10 t150 t151 _ A11.out).mono ?_); rintro e w13 ⟨v152, rfl, ho0, hb⟩; refine ⟨_, rfl, ?_⟩; have n0_ := Aside0.mk (Kd.R_lower ho0 (below_size (by repeat (first | (with_reducible first | exact HB.out | apply below_alloc | apply pw_below_drewN | apply below_drew1) | exact HB.out)))); have n1_ := Aside0.mk (below_step (by repeat (first | (with_reducible first | exact HB.out | apply below_alloc | apply pw_below_drewN | apply below_drew1) | exact HB.out)) hb); clear HB; have HO153 := n0_; have HB := n1_; clear n0_ n1_; (try clear hb); (try clear hb2); (try clear hk); (try clear hi); (try clear ho0)))
        go_ret2
        exact ⟨_, by first | rfl | (simp [errW_none, errW_some] <;> rfl) | (simp only [← hji7, ← hji9, ← hji10]; first | rfl | (simp [errW_none, errW_some] <;> rfl)) | (simp [*, errW_none, errW_some] <;> rfl), by (with_reducible repeat (first | apply Kd.R_alloc | apply Kd.R_drewN | apply Kd.R_drew)); exact HO153.out, by repeat (first | (with_reducible first | exact HB.out | apply below_alloc | apply pw_below_drewN | apply below_drew1) | exact HB.out)⟩
      · rw [if_neg c8] at H
        exact absurd H (by simp)
  · rw [if_neg c4] at H
    have c4b0 : (t149 == 0) = false := beq_eq_false_iff_ne.mpr c4
    have c4b1 : (t149 != 0) = true := bne_iff_ne.mpr c4
    simp only [Option.some.injEq, Prod.mk.injEq] at H
    obtain ⟨rfl, rfl⟩ := H
    go_enter Tryd.func162, Tryd.ntmps162
    go_wp2_with (first | ((with_reducible refine gate_callee (f := 119) rfl ?_); refine goesL_ (some 11) rfl rfl Tryd.func119 (by kernel_rfl) rfl #[.int .i64 a0, .int .i64 a1] rfl (by (try simp only [List.map_toArray, List.map_cons, List.map_nil]); first | done | rfl | (simp only [List.length_drop, List.length_take]; rfl)) ?_; (with_reducible refine (twid_Root.calls k a0 a1 t148 t149 _ A3.out).mono ?_); rintro e w14 ⟨rfl, hb⟩; refine ⟨_, rfl, ?_⟩; have n0_ := Aside0.mk (below_step (by repeat (first | (with_reducible first | exact HB.out | apply below_alloc | apply pw_below_drewN | apply below_drew1) | exact HB.out)) hb); clear HB; have HB := n0_; clear n0_; (try clear hb); (try clear hb2); (try clear hk); (try clear hi)))
    go_ret2
    exact ⟨_, by first | rfl | (simp [errW_none, errW_some] <;> rfl) | (simp [*, errW_none, errW_some] <;> rfl), by first | exact Kd.R_nil _ _ _ _ _ | exact Kd.N_nil _ _ _ _ _ | exact Kd.V_nil _ _ _ _ _ | exact Kd.Q_nil _ _ _ _ _ | exact Kd.S_nil _ _ _ _ _, by repeat (first | (with_reducible first | exact HB.out | apply below_alloc | apply pw_below_drewN | apply below_drew1) | exact HB.out)⟩
def gold_Neg.f (a0 : Int) : Option (Int) := (gold_Of.f a0).bind fun t154 => (if t154 = 0 then (some 0) else (some (IntKind.u64.wrap (18446744069414584321 - t154))))
set_option maxHeartbeats 8000000 in
set_option maxRecDepth 100000 in
theorem gold_Neg.calls (a0 : Int) (r : Int) (w : World) (h : gold_Neg.f a0 = some r) :
    Calls Tryd.prog 163 #[.int .u64 a0] w fun e w' => e = .returned (.int .u64 r) ∧ Drawn0 w w' := by
  have H : ((gold_Of.f a0).bind fun t154 => (if t154 = 0 then (some 0) else (some (IntKind.u64.wrap (18446744069414584321 - t154))))) = some r := h
  clear h
  replace H := Option.bind_eq_some_iff.mp H
  obtain ⟨t154, A20, H⟩ := H
  replace H : (if t154 = 0 then (some 0) else (some (IntKind.u64.wrap (18446744069414584321 - t154)))) = some r := H
  have A2 := Aside0.mk A20
  clear A20
  by_cases c3 : t154 = 0
  · rw [if_pos c3] at H
    have c3b0 : (t154 == 0) = true := beq_iff_eq.mpr c3
    have c3b1 : (t154 != 0) = false := bne_eq_false_iff_eq.mpr c3
    clear c3
    obtain rfl := Option.some.inj H
    go_enter Tryd.func163, Tryd.ntmps163
    go_wp2_with (first | ((with_reducible refine gate_callee (f := 130) rfl ?_); refine goesL_ (some 4) rfl rfl Tryd.func130 (by kernel_rfl) rfl #[.int .u64 a0] rfl (by (try simp only [List.map_toArray, List.map_cons, List.map_nil]); first | done | rfl | (simp only [List.length_drop, List.length_take]; rfl)) ?_; (with_reducible refine (gold_Of.calls a0 t154 _ A2.out).mono ?_); rintro e w' ⟨rfl, ⟨nd, rfl⟩⟩; refine ⟨_, rfl, ?_⟩))
    go_ret
    exact ⟨by first | rfl | (simp; done) | (simp [*]; done), by repeat (first | exact Drawn0.refl _ | apply Drawn0.step)⟩
  · rw [if_neg c3] at H
    have c3b0 : (t154 == 0) = false := beq_eq_false_iff_ne.mpr c3
    have c3b1 : (t154 != 0) = true := bne_iff_ne.mpr c3
    obtain rfl := Option.some.inj H
    go_enter Tryd.func163, Tryd.ntmps163
    go_wp2_with (first | ((with_reducible refine gate_callee (f := 130) rfl ?_); refine goesL_ (some 4) rfl rfl Tryd.func130 (by kernel_rfl) rfl #[.int .u64 a0] rfl (by (try simp only [List.map_toArray, List.map_cons, List.map_nil]); first | done | rfl | (simp only [List.length_drop, List.length_take]; rfl)) ?_; (with_reducible refine (gold_Of.calls a0 t154 _ A2.out).mono ?_); rintro e w' ⟨rfl, ⟨nd, rfl⟩⟩; refine ⟨_, rfl, ?_⟩))
    go_ret
    exact ⟨by first | rfl | (simp; done) | (simp [*]; done), by repeat (first | exact Drawn0.refl _ | apply Drawn0.step)⟩
def kern4_whole.l0 : Nat → List Int → List Int → Int → Int → Option (List Int)
  | 0, _, _, _, _ => none
  | k + 1, x7, x21, x22, x23 => if x23 < x22 then (if 0 ≤ x23 then (if x23 < (x21.length : Int) then ((gold_Neg.f (rd x21 x23)).bind fun t166 => (if x7.length < 17592186044416 then (kern4_whole.l0 k (x7 ++ [t166]) x21 x22 (wrap64 (x23 + 1))) else (none))) else (none)) else (none)) else (some x7)
def kern4_whole.f (k : Nat) (a0 : Int) (a1 : Int) : Option (List Int) := (twid_Table.f k a0 a1).bind fun bt155 => ((some (([] : List Int) : List Int)).bind fun y159 => (if y159.length + bt155.1.length < 17592186044416 then ((some (y159 ++ bt155.1 : List Int)).bind fun y162 => (if a0 > 0 then (kern4_whole.l0 k y162 bt155.1 (bt155.1.length : Int) 0) else (some y162))) else (none)))
set_option maxHeartbeats 8000000 in
set_option maxRecDepth 100000 in
theorem kern4_whole.calls (k : Nat) (a0 : Int) (a1 : Int) (r : List Int) (w : World) (h : kern4_whole.f k a0 a1 = some r) :
    Calls Tryd.prog 149 #[.int .i64 a0, .int .i64 a1] w fun e w' => ∃ v0_ : Value, e = .returned (v0_) ∧ Kd.R (Kd.int .u64) 45 w' w.heap.size (fun _ => True) v0_ r ∧ Below w.heap.size w w' := by
  have HB := Aside0.mk (Below.refl w.heap.size w)
  have H : ((twid_Table.f k a0 a1).bind fun bt155 => ((some (([] : List Int) : List Int)).bind fun y159 => (if y159.length + bt155.1.length < 17592186044416 then ((some (y159 ++ bt155.1 : List Int)).bind fun y162 => (if a0 > 0 then (kern4_whole.l0 k y162 bt155.1 (bt155.1.length : Int) 0) else (some y162))) else (none)))) = some r := h
  clear h
  replace H := Option.bind_eq_some_iff.mp H
  obtain ⟨⟨t155, t156⟩, A30, H⟩ := H
  replace H : ((some (([] : List Int) : List Int)).bind fun y159 => (if y159.length + t155.length < 17592186044416 then ((some (y159 ++ t155 : List Int)).bind fun y162 => (if a0 > 0 then (kern4_whole.l0 k y162 t155 (t155.length : Int) 0) else (some y162))) else (none))) = some r := H
  have A3 := Aside0.mk A30
  clear A30
  obtain ⟨y159, hy159⟩ : ∃ y_ : List Int, y_ = (([] : List Int)) := ⟨_, rfl⟩
  replace H : (if y159.length + t155.length < 17592186044416 then ((some (y159 ++ t155 : List Int)).bind fun y162 => (if a0 > 0 then (kern4_whole.l0 k y162 t155 (t155.length : Int) 0) else (some y162))) else (none)) = some r := by first | (rw [hy159]; with_reducible exact H) | (have H2_ := (Option.bind_some _ _).symm.trans H; rw [hy159]; with_reducible exact H2_) | (have H2_ := (Option.bind_some _ _).symm.trans H; with_reducible exact H2_) | with_reducible exact H | (rw [hy159]; exact H) | exact H
  have Ny159 := Aside0.mk hy159
  clear hy159
  by_cases c4 : y159.length + t155.length < 17592186044416
  · rw [if_pos c4] at H
    have LMc4 := Aside0.mk c4
    clear c4
    obtain ⟨y162, hy162⟩ : ∃ y_ : List Int, y_ = (y159 ++ t155) := ⟨_, rfl⟩
    replace H : (if a0 > 0 then (kern4_whole.l0 k y162 t155 (t155.length : Int) 0) else (some y162)) = some r := by first | (rw [hy162]; with_reducible exact H) | (have H2_ := (Option.bind_some _ _).symm.trans H; rw [hy162]; with_reducible exact H2_) | (have H2_ := (Option.bind_some _ _).symm.trans H; with_reducible exact H2_) | with_reducible exact H | (rw [hy162]; exact H) | exact H
    have Ny162 := Aside0.mk hy162
    clear hy162
    by_cases c5 : a0 > 0
    · rw [if_pos c5] at H
      have c5b0 : decide (0 < a0) = true := decide_eq_true c5
      clear c5
      have H' := Aside0.mk H
      clear H
      go_enter Tryd.func149, Tryd.ntmps149
      go_wp2_with (first | ((with_reducible refine gate_callee (f := 162) rfl ?_); refine goesL_ (some 13) rfl rfl Tryd.func162 (by kernel_rfl) rfl #[.int .i64 a0, .int .i64 a1] rfl (by (try simp only [List.map_toArray, List.map_cons, List.map_nil]); first | done | rfl | (simp only [List.length_drop, List.length_take]; rfl)) ?_; (with_reducible refine (twid_Table.calls k a0 a1 t155 t156 _ A3.out).mono ?_); rintro e w6 ⟨v157, rfl, ho0, hb⟩; refine ⟨_, rfl, ?_⟩; have n0_ := Aside0.mk (Kd.R_lower ho0 (below_size (by repeat (first | (with_reducible first | exact HB.out | apply below_alloc | apply pw_below_drewN | apply below_drew1) | exact HB.out)))); have n1_ := Aside0.mk (below_step (by repeat (first | (with_reducible first | exact HB.out | apply below_alloc | apply pw_below_drewN | apply below_drew1) | exact HB.out)) hb); clear HB; have HO158 := n0_; have HB := n1_; clear n0_ n1_; (try clear hb); (try clear hb2); (try clear hk); (try clear hi); (try clear ho0)) | ((with_reducible refine gate_dst (N := 16) rfl ?_); refine Kd.R_lit (Kd.int .u64) _ 45 ?hg (N := 16) ?hd (xs := ([] : List Int)) (inner := []) (ok := fun _ => True) (okp := fun _ => True) ?hr ?hp (fun _ hk => hk) trivial (Below.refl _ _) (Nat.le_refl _) (by simp) ?_; (case hd => rfl); (case hg => rfl); (case hr => first | (go_simp; done) | (go_simp; rfl)); (case hp => exact (Reps.none _ _)); intro v160 w7 ho8 hb hg_ hnew_; clear hg_ hnew_; (first | rw [← Ny159.out] at ho8 | (simp only [Int.reduceToNat] at ho8; rw [← Ny159.out] at ho8)); have n0_ := Aside0.mk (Kd.R_elder' (by (with_reducible repeat (first | apply Kd.R_alloc | apply Kd.R_drewN | apply Kd.R_drew)); exact HO158.out) (Kd.R_base ho8) hb); have n1_ := Aside0.mk (Kd.R_lower (Kd.R_new' ho8 (Kd.R_lt (by (with_reducible repeat (first | apply Kd.R_alloc | apply Kd.R_drewN | apply Kd.R_drew)); exact HO158.out))) (below_size (by repeat (first | (with_reducible first | exact HB.out | apply below_alloc | apply pw_below_drewN | apply below_drew1) | exact HB.out)))); have n2_ := Aside0.mk (below_step (by repeat (first | (with_reducible first | exact HB.out | apply below_alloc | apply pw_below_drewN | apply below_drew1) | exact HB.out)) hb); clear HO158; clear HB; have HO158 := n0_; have HO161 := n1_; have HB := n2_; clear n0_ n1_ n2_; clear hb ho8; obtain ⟨Ao10, co10, eo10⟩ := Kd.R_slice HO158.out; subst eo10) | ((with_reducible refine gate_builtin (b := .append) (xs := #[.tmp 16, .tmp 17]) rfl ?_); at_builtin; refine Kd.R_append_rows (Kd.int .u64) (w0 := w) w.heap.size rfl (.tmp 16) (.tmp 17) 24 45 (.int .u64 0) 8 rfl Tryd.underlying24 info45 rfl (by decide) (by omega) v160 y159 t155 _ _ _ (fun k_ => some k_ ≠ (.slice Ao10 t155.length co10 : Value).ownBlock) (fun _ => False) rfl rfl ?aO ?aR (fun _ _ h => h) (fun _ h => h.elim) ?aF ?aB ?aS ?aL ?_; (case aR => repeat (first | exact (Kd.R_reads' HO158.out).2.2 | (with_reducible refine Kd.C_alloc ?_ _) | (with_reducible refine Kd.C_drewN ?_ _) | (with_reducible refine Kd.C_drew ?_))); (case aB => exact (by repeat (first | (with_reducible first | exact HB.out | apply below_alloc | apply pw_below_drewN | apply below_drew1) | exact HB.out))); (case aF => exact (fun k_ hk => Kd.fresh' (Kd.R_lt (by (with_reducible repeat (first | apply Kd.R_alloc | apply Kd.R_drewN | apply Kd.R_drew)); exact HO158.out)) k_ hk)); (case aO => exact (by (with_reducible repeat (first | apply Kd.R_alloc | apply Kd.R_drewN | apply Kd.R_drew)); exact Kd.R_mono HO161.out (fun _ hk => hk.2))); (case aS => exact (below_size (by repeat (first | (with_reducible first | exact HB.out | apply below_alloc | apply pw_below_drewN | apply below_drew1) | exact HB.out)))); (case aL => have := LMc4.out; omega); intro v163 w9 ho hb hg hat; rw [← Ny162.out] at ho; have n0_ := Aside0.mk (Kd.R_after (ok := (fun _ => True)) (by (with_reducible repeat (first | apply Kd.R_alloc | apply Kd.R_drewN | apply Kd.R_drew)); exact HO158.out) hg hat); have n1_ := Aside0.mk (hb); have n2_ := Aside0.mk (ho); clear HO158; clear HB; clear HO161; have HO158 := n0_; have HB := n1_; have HO164 := n2_; clear n0_ n1_ n2_; clear ho hb hg hat))
      go_loopg [7, 23] k (fun kq v7 v23 w' => ∃ (x7_1 : List Int) (x23_1 : Int), v23 = .int .i64 x23_1 ∧ Aside0 (kern4_whole.l0 kq x7_1 t155 (t155.length : Int) x23_1 = some r) ∧ Aside0 (kq ≤ k) ∧ Aside0 (Kd.R (Kd.int .u64) 45 w' w.heap.size (fun k_ => some k_ ≠ ((.slice Ao10 t155.length co10) : Value).ownBlock) v7 x7_1) ∧ Aside0 (Kd.R (Kd.int .u64) 45 w' w.heap.size (fun k_ => some k_ ≠ (v7 : Value).ownBlock) (.slice Ao10 t155.length co10) t155) ∧ Aside0 (Below w.heap.size w w'))
      case atStart => exact ⟨(y162), (0), (by first | rfl | (simp; done) | (simp [*]; done)), H', ⟨Nat.le_refl _⟩, ⟨by (with_reducible repeat (first | apply Kd.R_alloc | apply Kd.R_drewN | apply Kd.R_drew)); exact HO164.out⟩, ⟨by (with_reducible repeat (first | apply Kd.R_alloc | apply Kd.R_drewN | apply Kd.R_drew)); exact Kd.R_mono HO158.out (fun _ hk => hk.2)⟩, ⟨by repeat (first | (with_reducible first | exact HB.out | apply below_alloc | apply pw_below_drewN | apply below_drew1) | exact HB.out)⟩⟩
      case round =>
        clear H'
        try clear c1
        try clear p2
        try clear c4
        try clear c5
        try clear c5b0
        obtain ⟨x7_1, x23_1, rfl, HA, HK1, HO_7, HO_21, HB⟩ := hrel
        cases gk with
        | zero => exact absurd HA.out (by simp [kern4_whole.l0])
        | succ k1 =>
          have H := HA.out
          clear HA
          simp only [kern4_whole.l0] at H
          by_cases c11 : x23_1 < (t155.length : Int)
          · rw [if_pos c11] at H
            have c11b0 : decide (x23_1 < (t155.length : Int)) = true := decide_eq_true c11
            clear c11
            by_cases c12 : 0 ≤ x23_1
            · rw [if_pos c12] at H
              have c12b0 : decide (0 ≤ x23_1) = true := decide_eq_true c12
              clear c12
              by_cases c13 : x23_1 < (t155.length : Int)
              · rw [if_pos c13] at H
                have c13b0 : decide (x23_1 < (t155.length : Int)) = true := decide_eq_true c13
                clear c13
                replace H := Option.bind_eq_some_iff.mp H
                obtain ⟨t166, A140, H⟩ := H
                replace H : (if x7_1.length < 17592186044416 then (kern4_whole.l0 k1 (x7_1 ++ [t166]) t155 (t155.length : Int) (wrap64 (x23_1 + 1))) else (none)) = some r := H
                have A14 := Aside0.mk A140
                clear A140
                by_cases c15 : x7_1.length < 17592186044416
                · rw [if_pos c15] at H
                  have LMc15 := Aside0.mk c15
                  clear c15
                  obtain ⟨y167, hy167⟩ : ∃ y_ : List Int, y_ = (x7_1 ++ [t166]) := ⟨_, rfl⟩
                  replace H : (kern4_whole.l0 k1 y167 t155 (t155.length : Int) (wrap64 (x23_1 + 1))) = some r := by first | (rw [hy167]; with_reducible exact H) | (have H2_ := (Option.bind_some _ _).symm.trans H; rw [hy167]; with_reducible exact H2_) | (have H2_ := (Option.bind_some _ _).symm.trans H; with_reducible exact H2_) | with_reducible exact H | (rw [hy167]; exact H) | exact H
                  have Ny167 := Aside0.mk hy167
                  clear hy167
                  have H' := Aside0.mk H
                  clear H
                  have p165 : 0 ≤ (x23_1 : Int) := of_decide_eq_true (by first | (with_reducible assumption) | assumption)
                  have q165 : x23_1 < (t155.length : Int) := of_decide_eq_true (by first | (with_reducible assumption) | assumption)
                  obtain ⟨ad165, e165, hx165_0⟩ := Kd.at_int (Kd.R_reads' HO_21.out).2.2 x23_1 p165 q165
                  cases e165
                  replace p165 := eq_true p165
                  replace q165 := eq_true q165
                  go_wp2_with (first | ((with_reducible refine gate_callee (f := 163) rfl ?_); refine goesL_ (some 29) rfl rfl Tryd.func163 (by kernel_rfl) rfl #[.int .u64 (rd t155 x23_1)] rfl (by (try simp only [List.map_toArray, List.map_cons, List.map_nil]); first | done | rfl | (simp only [List.length_drop, List.length_take]; rfl)) ?_; (with_reducible refine (gold_Neg.calls (rd t155 x23_1) t166 _ A14.out).mono ?_); rintro e w' ⟨rfl, ⟨nd, rfl⟩⟩; refine ⟨_, rfl, ?_⟩) | ((with_reducible refine gate_builtin (b := .append) (xs := #[.tmp 27, .tmp 30]) rfl ?_); at_builtin; refine Kd.R_append (Kd.int .u64) (w0 := w) w.heap.size rfl (.tmp 27) (.tmp 30) 24 45 (.int .u64 0) 8 rfl Tryd.underlying24 info45 rfl (by decide) (by omega) u7 x7_1 t166 [.int .u64 t166] (fun k_ => some k_ ≠ (.slice (some ad165) t155.length co10 : Value).ownBlock) (fun _ => False) rfl rfl ?aP (fun _ hk => hk.elim) ?aF ?aO ?aB ?aS ?aL ?_; (case aP => exact rfl); (case aB => exact (by repeat (first | (with_reducible first | exact HB.out | apply below_alloc | apply pw_below_drewN | apply below_drew1) | exact HB.out))); (case aF => exact (fun k_ hk => Kd.fresh' (Kd.R_lt (by (with_reducible repeat (first | apply Kd.R_alloc | apply Kd.R_drewN | apply Kd.R_drew)); exact HO_21.out)) k_ hk)); (case aO => exact (by (with_reducible repeat (first | apply Kd.R_alloc | apply Kd.R_drewN | apply Kd.R_drew)); exact HO_7.out)); (case aS => exact (below_size (by repeat (first | (with_reducible first | exact HB.out | apply below_alloc | apply pw_below_drewN | apply below_drew1) | exact HB.out)))); (case aL => have := LMc15.out; omega); intro v168 w16 ho hb hg hat; rw [← Ny167.out] at ho; have n0_ := Aside0.mk (Kd.R_after (ok := (fun _ => True)) (by (with_reducible repeat (first | apply Kd.R_alloc | apply Kd.R_drewN | apply Kd.R_drew)); exact Kd.R_mono HO_21.out (fun _ hk => ⟨trivial, hk⟩)) hg hat); have n1_ := Aside0.mk (hb); have n2_ := Aside0.mk (ho); clear HO_21; clear HB; clear HO_7; have HO_21 := n0_; have HB := n1_; have HO169 := n2_; clear n0_ n1_ n2_; clear ho hb hg hat))
                  go_roundg k1
                  case measure => have := HK1.out; omega
                  case rel => exact ⟨(y167), (wrap64 (x23_1 + 1)), (by first | rfl | (simp; done) | (simp [*]; done)), H', ⟨by have := HK1.out; omega⟩, ⟨by (with_reducible repeat (first | apply Kd.R_alloc | apply Kd.R_drewN | apply Kd.R_drew)); exact HO169.out⟩, ⟨by (with_reducible repeat (first | apply Kd.R_alloc | apply Kd.R_drewN | apply Kd.R_drew)); exact Kd.R_mono HO_21.out (fun _ hk => hk.2)⟩, ⟨by repeat (first | (with_reducible first | exact HB.out | apply below_alloc | apply pw_below_drewN | apply below_drew1) | exact HB.out)⟩⟩
                · rw [if_neg c15] at H
                  exact absurd H (by simp)
              · rw [if_neg c13] at H
                exact absurd H (by simp)
            · rw [if_neg c12] at H
              exact absurd H (by simp)
          · rw [if_neg c11] at H
            have c11b0 : decide (x23_1 < (t155.length : Int)) = false := decide_eq_false c11
            clear c11
            obtain rfl := Option.some.inj H
            go_wp2
            go_ret
            exact ⟨_, by first | rfl | (simp [errW_none, errW_some] <;> rfl) | (simp [*, errW_none, errW_some] <;> rfl), by (with_reducible repeat (first | apply Kd.R_alloc | apply Kd.R_drewN | apply Kd.R_drew)); exact Kd.R_mono HO_7.out (fun _ hk => trivial), by repeat (first | (with_reducible first | exact HB.out | apply below_alloc | apply pw_below_drewN | apply below_drew1) | exact HB.out)⟩
    · rw [if_neg c5] at H
      have c5b0 : decide (0 < a0) = false := decide_eq_false c5
      clear c5
      obtain rfl := Option.some.inj H
      go_enter Tryd.func149, Tryd.ntmps149
      go_wp2_with (first | ((with_reducible refine gate_callee (f := 162) rfl ?_); refine goesL_ (some 13) rfl rfl Tryd.func162 (by kernel_rfl) rfl #[.int .i64 a0, .int .i64 a1] rfl (by (try simp only [List.map_toArray, List.map_cons, List.map_nil]); first | done | rfl | (simp only [List.length_drop, List.length_take]; rfl)) ?_; (with_reducible refine (twid_Table.calls k a0 a1 t155 t156 _ A3.out).mono ?_); rintro e w17 ⟨v157, rfl, ho0, hb⟩; refine ⟨_, rfl, ?_⟩; have n0_ := Aside0.mk (Kd.R_lower ho0 (below_size (by repeat (first | (with_reducible first | exact HB.out | apply below_alloc | apply pw_below_drewN | apply below_drew1) | exact HB.out)))); have n1_ := Aside0.mk (below_step (by repeat (first | (with_reducible first | exact HB.out | apply below_alloc | apply pw_below_drewN | apply below_drew1) | exact HB.out)) hb); clear HB; have HO158 := n0_; have HB := n1_; clear n0_ n1_; (try clear hb); (try clear hb2); (try clear hk); (try clear hi); (try clear ho0)) | ((with_reducible refine gate_dst (N := 16) rfl ?_); refine Kd.R_lit (Kd.int .u64) _ 45 ?hg (N := 16) ?hd (xs := ([] : List Int)) (inner := []) (ok := fun _ => True) (okp := fun _ => True) ?hr ?hp (fun _ hk => hk) trivial (Below.refl _ _) (Nat.le_refl _) (by simp) ?_; (case hd => rfl); (case hg => rfl); (case hr => first | (go_simp; done) | (go_simp; rfl)); (case hp => exact (Reps.none _ _)); intro v160 w18 ho19 hb hg_ hnew_; clear hg_ hnew_; (first | rw [← Ny159.out] at ho19 | (simp only [Int.reduceToNat] at ho19; rw [← Ny159.out] at ho19)); have n0_ := Aside0.mk (Kd.R_elder' (by (with_reducible repeat (first | apply Kd.R_alloc | apply Kd.R_drewN | apply Kd.R_drew)); exact HO158.out) (Kd.R_base ho19) hb); have n1_ := Aside0.mk (Kd.R_lower (Kd.R_new' ho19 (Kd.R_lt (by (with_reducible repeat (first | apply Kd.R_alloc | apply Kd.R_drewN | apply Kd.R_drew)); exact HO158.out))) (below_size (by repeat (first | (with_reducible first | exact HB.out | apply below_alloc | apply pw_below_drewN | apply below_drew1) | exact HB.out)))); have n2_ := Aside0.mk (below_step (by repeat (first | (with_reducible first | exact HB.out | apply below_alloc | apply pw_below_drewN | apply below_drew1) | exact HB.out)) hb); clear HO158; clear HB; have HO158 := n0_; have HO161 := n1_; have HB := n2_; clear n0_ n1_ n2_; clear hb ho19; obtain ⟨Ao21, co21, eo21⟩ := Kd.R_slice HO158.out; subst eo21) | ((with_reducible refine gate_builtin (b := .append) (xs := #[.tmp 16, .tmp 17]) rfl ?_); at_builtin; refine Kd.R_append_rows (Kd.int .u64) (w0 := w) w.heap.size rfl (.tmp 16) (.tmp 17) 24 45 (.int .u64 0) 8 rfl Tryd.underlying24 info45 rfl (by decide) (by omega) v160 y159 t155 _ _ _ (fun k_ => some k_ ≠ (.slice Ao21 t155.length co21 : Value).ownBlock) (fun _ => False) rfl rfl ?aO ?aR (fun _ _ h => h) (fun _ h => h.elim) ?aF ?aB ?aS ?aL ?_; (case aR => repeat (first | exact (Kd.R_reads' HO158.out).2.2 | (with_reducible refine Kd.C_alloc ?_ _) | (with_reducible refine Kd.C_drewN ?_ _) | (with_reducible refine Kd.C_drew ?_))); (case aB => exact (by repeat (first | (with_reducible first | exact HB.out | apply below_alloc | apply pw_below_drewN | apply below_drew1) | exact HB.out))); (case aF => exact (fun k_ hk => Kd.fresh' (Kd.R_lt (by (with_reducible repeat (first | apply Kd.R_alloc | apply Kd.R_drewN | apply Kd.R_drew)); exact HO158.out)) k_ hk)); (case aO => exact (by (with_reducible repeat (first | apply Kd.R_alloc | apply Kd.R_drewN | apply Kd.R_drew)); exact Kd.R_mono HO161.out (fun _ hk => hk.2))); (case aS => exact (below_size (by repeat (first | (with_reducible first | exact HB.out | apply below_alloc | apply pw_below_drewN | apply below_drew1) | exact HB.out)))); (case aL => have := LMc4.out; omega); intro v163 w20 ho hb hg hat; rw [← Ny162.out] at ho; have n0_ := Aside0.mk (Kd.R_after (ok := (fun _ => True)) (by (with_reducible repeat (first | apply Kd.R_alloc | apply Kd.R_drewN | apply Kd.R_drew)); exact HO158.out) hg hat); have n1_ := Aside0.mk (hb); have n2_ := Aside0.mk (ho); clear HO158; clear HB; clear HO161; have HO158 := n0_; have HB := n1_; have HO164 := n2_; clear n0_ n1_ n2_; clear ho hb hg hat))
      go_ret
      exact ⟨_, by first | rfl | (simp [errW_none, errW_some] <;> rfl) | (simp [*, errW_none, errW_some] <;> rfl), by (with_reducible repeat (first | apply Kd.R_alloc | apply Kd.R_drewN | apply Kd.R_drew)); exact Kd.R_mono HO164.out (fun _ hk => trivial), by repeat (first | (with_reducible first | exact HB.out | apply below_alloc | apply pw_below_drewN | apply below_drew1) | exact HB.out)⟩
  · rw [if_neg c4] at H
    exact absurd H (by simp)
def kern4_Unit.f (k : Nat) (a0 : Int) : Option (Int × Int) := (twid_Root.f k 2 a0).bind fun bt170 => (some (bt170.1, bt170.2))
set_option maxHeartbeats 8000000 in
set_option maxRecDepth 100000 in
theorem kern4_Unit.calls (k : Nat) (a0 : Int) (r1 : Int) (r2 : Int) (w : World) (h : kern4_Unit.f k a0 = some (r1, r2)) :
    Calls Tryd.prog 150 #[.int .i64 a0] w fun e w' => e = .returned (.tuple #[.int .u64 r1, .int .i64 r2]) ∧ Below w.heap.size w w' := by
  have HB := Aside0.mk (Below.refl w.heap.size w)
  have H : ((twid_Root.f k 2 a0).bind fun bt170 => (some (bt170.1, bt170.2))) = some (r1, r2) := h
  clear h
  replace H := Option.bind_eq_some_iff.mp H
  obtain ⟨⟨t170, t171⟩, A20, H⟩ := H
  replace H : (some (t170, t171)) = some (r1, r2) := H
  have A2 := Aside0.mk A20
  clear A20
  simp only [Option.some.injEq, Prod.mk.injEq] at H
  obtain ⟨rfl, rfl⟩ := H
  go_enter Tryd.func150, Tryd.ntmps150
  go_wp2_with (first | ((with_reducible refine gate_callee (f := 119) rfl ?_); refine goesL_ (some 5) rfl rfl Tryd.func119 (by kernel_rfl) rfl #[.int .i64 2, .int .i64 a0] rfl (by (try simp only [List.map_toArray, List.map_cons, List.map_nil]); first | done | rfl | (simp only [List.length_drop, List.length_take]; rfl)) ?_; (with_reducible refine (twid_Root.calls k 2 a0 t170 t171 _ A2.out).mono ?_); rintro e w3 ⟨rfl, hb⟩; refine ⟨_, rfl, ?_⟩; have n0_ := Aside0.mk (below_step (by repeat (first | (with_reducible first | exact HB.out | apply below_alloc | apply pw_below_drewN | apply below_drew1) | exact HB.out)) hb); clear HB; have HB := n0_; clear n0_; (try clear hb); (try clear hb2); (try clear hk); (try clear hi)))
  go_ret2
  exact ⟨by first | rfl | (simp [errW_none, errW_some] <;> rfl) | (simp [*, errW_none, errW_some] <;> rfl), by repeat (first | (with_reducible first | exact HB.out | apply below_alloc | apply pw_below_drewN | apply below_drew1) | exact HB.out)⟩
def shape_Size.f (a0_0 : Int) (a0_1 : Int) : Option (Int) := (shape_Good.f a0_0 a0_1).bind fun t173 => (if t173 = true then (some (wrap64 (a0_0 * a0_1))) else (some 0))
set_option maxHeartbeats 8000000 in
set_option maxRecDepth 100000 in
theorem shape_Size.calls (a0_0 : Int) (a0_1 : Int) (r : Int) (w : World) (h : shape_Size.f a0_0 a0_1 = some r) (hT : TabOK w) :
    Calls Tryd.prog 69 #[.agg #[.int .i64 a0_0, .int .i64 a0_1]] w fun e w' => e = .returned (.int .i64 r) ∧ Below w.heap.size w w' := by
  have hu23 := Tryd.underlying23
  have HB := Aside0.mk (Below.refl w.heap.size w)
  have H : ((shape_Good.f a0_0 a0_1).bind fun t173 => (if t173 = true then (some (wrap64 (a0_0 * a0_1))) else (some 0))) = some r := h
  clear h
  replace H := Option.bind_eq_some_iff.mp H
  obtain ⟨t173, A20, H⟩ := H
  replace H : (if t173 = true then (some (wrap64 (a0_0 * a0_1))) else (some 0)) = some r := H
  have A2 := Aside0.mk A20
  clear A20
  by_cases c3 : t173 = true
  · subst c3
    have H1 : (some (wrap64 (a0_0 * a0_1))) = some r := by rw [if_pos rfl] at H; exact H
    clear H
    have H := H1
    clear H1
    obtain rfl := Option.some.inj H
    go_enter Tryd.func69, Tryd.ntmps69
    go_wp2_with (first | ((with_reducible refine gate_dst (N := 1) rfl ?_); refine box_event ?hg (N := 1) ?hd (cs := #[.int .i64 a0_0, .int .i64 a0_1]) (t := 23) ?hr ?_; (case hd => rfl); (case hg => rfl); (case hr => first | (go_simp; done) | (go_simp; rfl)); intro gb172 hg w4 hbox hb; have n0_ := Aside0.mk (below_step (by repeat (first | (with_reducible first | exact HB.out | apply below_alloc | apply pw_below_drewN | apply below_drew1) | exact HB.out)) hb); have n1_ := Aside0.mk (hbox); have n2_ := Aside0.mk ((by rw [hg]; exact (below_size (by repeat (first | (with_reducible first | exact HB.out | apply below_alloc | apply pw_below_drewN | apply below_drew1) | exact HB.out))) : w.heap.size ≤ gb172)); have n3_ := Aside0.mk ((by rw [hg]; exact (below_size (by repeat (first | (with_reducible first | exact HB.out | apply below_alloc | apply pw_below_drewN | apply below_drew1) | exact HB.out))) : w.heap.size ≤ gb172)); clear HB; have HB := n0_; have BK172 := n1_; have GW172 := n2_; have GE172 := n3_; clear n0_ n1_ n2_ n3_; clear hb hbox hg; have hcz5_0 : w4.cell? ⟨gb172, 0, none⟩ = some (.int .i64 a0_0) := (blk_cell BK172.out 0).trans rfl; have hcz5_1 : w4.cell? ⟨gb172, 1, none⟩ = some (.int .i64 a0_1) := (blk_cell BK172.out 1).trans rfl; have hfz5_0 := blk_frozen BK172.out 0; have hfz5_1 := blk_frozen BK172.out 1) | ((with_reducible refine gate_callee (f := 68) rfl ?_); refine goesL_ (some 4) rfl rfl Tryd.func68 (by kernel_rfl) rfl #[.agg #[.int .i64 a0_0, .int .i64 a0_1]] rfl (by (try simp only [List.map_toArray, List.map_cons, List.map_nil]); first | done | rfl | (simp only [List.length_drop, List.length_take]; rfl)) ?_; (with_reducible refine (shape_Good.calls a0_0 a0_1 true _ A2.out (TabOK.below hT (by repeat (first | (with_reducible first | exact HB.out | apply below_alloc | apply pw_below_drewN | apply below_drew1 | refine below_set ?_ GE172.out) | exact HB.out)))).mono ?_); rintro e w6 ⟨rfl, hb⟩; refine ⟨_, rfl, ?_⟩; have n0_ := Aside0.mk (blk_below (g := gb172) (o := .cells #[.int .i64 a0_0, .int .i64 a0_1] 23 (0, 0)) (by (with_reducible repeat (first | refine blk_drewN ?_ _ | refine blk_drew ?_ | refine blk_alloc ?_ _)); exact BK172.out) hb); have n1_ := Aside0.mk (below_step (by repeat (first | (with_reducible first | exact HB.out | apply below_alloc | apply pw_below_drewN | apply below_drew1 | refine below_set ?_ GE172.out) | exact HB.out)) hb); clear BK172; clear HB; have BK172 := n0_; have HB := n1_; clear n0_ n1_; (try clear hb); (try clear hb2); (try clear hk); (try clear hi); have hcz7_0 : w6.cell? ⟨gb172, 0, none⟩ = some (.int .i64 a0_0) := (blk_cell BK172.out 0).trans rfl; have hcz7_1 : w6.cell? ⟨gb172, 1, none⟩ = some (.int .i64 a0_1) := (blk_cell BK172.out 1).trans rfl; have hfz7_0 := blk_frozen BK172.out 0; have hfz7_1 := blk_frozen BK172.out 1))
    go_ret
    exact ⟨by first | rfl | (simp [errW_none, errW_some] <;> rfl) | (simp [*, errW_none, errW_some] <;> rfl), by repeat (first | (with_reducible first | exact HB.out | apply below_alloc | apply pw_below_drewN | apply below_drew1 | refine below_set ?_ GE172.out) | exact HB.out)⟩
  · replace c3 := Bool.eq_false_iff.mpr c3
    subst c3
    have H1 : (some 0) = some r := by rw [if_neg (show ¬ (false = true) by decide)] at H; exact H
    clear H
    have H := H1
    clear H1
    obtain rfl := Option.some.inj H
    go_enter Tryd.func69, Tryd.ntmps69
    go_wp2_with (first | ((with_reducible refine gate_dst (N := 1) rfl ?_); refine box_event ?hg (N := 1) ?hd (cs := #[.int .i64 a0_0, .int .i64 a0_1]) (t := 23) ?hr ?_; (case hd => rfl); (case hg => rfl); (case hr => first | (go_simp; done) | (go_simp; rfl)); intro gb172 hg w8 hbox hb; have n0_ := Aside0.mk (below_step (by repeat (first | (with_reducible first | exact HB.out | apply below_alloc | apply pw_below_drewN | apply below_drew1) | exact HB.out)) hb); have n1_ := Aside0.mk (hbox); have n2_ := Aside0.mk ((by rw [hg]; exact (below_size (by repeat (first | (with_reducible first | exact HB.out | apply below_alloc | apply pw_below_drewN | apply below_drew1) | exact HB.out))) : w.heap.size ≤ gb172)); have n3_ := Aside0.mk ((by rw [hg]; exact (below_size (by repeat (first | (with_reducible first | exact HB.out | apply below_alloc | apply pw_below_drewN | apply below_drew1) | exact HB.out))) : w.heap.size ≤ gb172)); clear HB; have HB := n0_; have BK172 := n1_; have GW172 := n2_; have GE172 := n3_; clear n0_ n1_ n2_ n3_; clear hb hbox hg; have hcz9_0 : w8.cell? ⟨gb172, 0, none⟩ = some (.int .i64 a0_0) := (blk_cell BK172.out 0).trans rfl; have hcz9_1 : w8.cell? ⟨gb172, 1, none⟩ = some (.int .i64 a0_1) := (blk_cell BK172.out 1).trans rfl; have hfz9_0 := blk_frozen BK172.out 0; have hfz9_1 := blk_frozen BK172.out 1) | ((with_reducible refine gate_callee (f := 68) rfl ?_); refine goesL_ (some 4) rfl rfl Tryd.func68 (by kernel_rfl) rfl #[.agg #[.int .i64 a0_0, .int .i64 a0_1]] rfl (by (try simp only [List.map_toArray, List.map_cons, List.map_nil]); first | done | rfl | (simp only [List.length_drop, List.length_take]; rfl)) ?_; (with_reducible refine (shape_Good.calls a0_0 a0_1 false _ A2.out (TabOK.below hT (by repeat (first | (with_reducible first | exact HB.out | apply below_alloc | apply pw_below_drewN | apply below_drew1 | refine below_set ?_ GE172.out) | exact HB.out)))).mono ?_); rintro e w10 ⟨rfl, hb⟩; refine ⟨_, rfl, ?_⟩; have n0_ := Aside0.mk (blk_below (g := gb172) (o := .cells #[.int .i64 a0_0, .int .i64 a0_1] 23 (0, 0)) (by (with_reducible repeat (first | refine blk_drewN ?_ _ | refine blk_drew ?_ | refine blk_alloc ?_ _)); exact BK172.out) hb); have n1_ := Aside0.mk (below_step (by repeat (first | (with_reducible first | exact HB.out | apply below_alloc | apply pw_below_drewN | apply below_drew1 | refine below_set ?_ GE172.out) | exact HB.out)) hb); clear BK172; clear HB; have BK172 := n0_; have HB := n1_; clear n0_ n1_; (try clear hb); (try clear hb2); (try clear hk); (try clear hi)))
    go_ret
    exact ⟨by first | rfl | (simp [errW_none, errW_some] <;> rfl) | (simp [*, errW_none, errW_some] <;> rfl), by repeat (first | (with_reducible first | exact HB.out | apply below_alloc | apply pw_below_drewN | apply below_drew1 | refine below_set ?_ GE172.out) | exact HB.out)⟩
def shape_fits.f (l0 : List Int) (a1_0 : Int) (a1_1 : Int) : Option (Bool) := (shape_Good.f a1_0 a1_1).bind fun t175 => (if t175 = true then ((shape_Size.f a1_0 a1_1).bind fun t176 => (some ((l0.length : Int) == t176))) else (some false))
set_option maxHeartbeats 8000000 in
set_option maxRecDepth 100000 in
theorem shape_fits.calls (A0 : Option Addr) (c0 : Nat) (l0 : List Int) (a1_0 : Int) (a1_1 : Int) (r : Bool) (w : World) (hr0 : Kd.C (Kd.int .u64) w A0 l0.length l0) (hc0 : l0.length ≤ c0) (h : shape_fits.f l0 a1_0 a1_1 = some r) (hT : TabOK w) :
    Calls Tryd.prog 122 #[.slice A0 l0.length c0, .agg #[.int .i64 a1_0, .int .i64 a1_1]] w fun e w' => e = .returned (.bool r) ∧ Below w.heap.size w w' := by
  have hu23 := Tryd.underlying23
  have HR0 := Aside0.mk hr0
  have HC0 := Aside0.mk hc0
  clear hr0 hc0
  have HB := Aside0.mk (Below.refl w.heap.size w)
  have H : ((shape_Good.f a1_0 a1_1).bind fun t175 => (if t175 = true then ((shape_Size.f a1_0 a1_1).bind fun t176 => (some ((l0.length : Int) == t176))) else (some false))) = some r := h
  clear h
  replace H := Option.bind_eq_some_iff.mp H
  obtain ⟨t175, A30, H⟩ := H
  replace H : (if t175 = true then ((shape_Size.f a1_0 a1_1).bind fun t176 => (some ((l0.length : Int) == t176))) else (some false)) = some r := H
  have A3 := Aside0.mk A30
  clear A30
  by_cases c4 : t175 = true
  · subst c4
    have H1 : ((shape_Size.f a1_0 a1_1).bind fun t176 => (some ((l0.length : Int) == t176))) = some r := by rw [if_pos rfl] at H; exact H
    clear H
    have H := H1
    clear H1
    replace H := Option.bind_eq_some_iff.mp H
    obtain ⟨t176, A50, H⟩ := H
    replace H : (some ((l0.length : Int) == t176)) = some r := H
    have A5 := Aside0.mk A50
    clear A50
    obtain rfl := Option.some.inj H
    go_enter Tryd.func122, Tryd.ntmps122
    go_wp2_with (first | ((with_reducible refine gate_dst (N := 3) rfl ?_); (try (refine gate_guard (by rfl) ?_; dsimp only)); refine box_event ?hg (N := 3) ?hd (cs := #[.int .i64 a1_0, .int .i64 a1_1]) (t := 23) ?hr ?_; (case hd => rfl); (case hg => rfl); (case hr => first | (go_simp; done) | (go_simp; rfl)); intro gb174 hg w6 hbox hb; have n0_ := Aside0.mk (below_step (by repeat (first | (with_reducible first | exact HB.out | apply below_alloc | apply pw_below_drewN | apply below_drew1) | exact HB.out)) hb); have n1_ := Aside0.mk (hbox); have n2_ := Aside0.mk ((by rw [hg]; exact (below_size (by repeat (first | (with_reducible first | exact HB.out | apply below_alloc | apply pw_below_drewN | apply below_drew1) | exact HB.out))) : w.heap.size ≤ gb174)); have n3_ := Aside0.mk ((by rw [hg]; exact (below_size (by repeat (first | (with_reducible first | exact HB.out | apply below_alloc | apply pw_below_drewN | apply below_drew1) | exact HB.out))) : w.heap.size ≤ gb174)); clear HB; have HB := n0_; have BK174 := n1_; have GW174 := n2_; have GE174 := n3_; clear n0_ n1_ n2_ n3_; clear hb hbox hg; have hcz7_0 : w6.cell? ⟨gb174, 0, none⟩ = some (.int .i64 a1_0) := (blk_cell BK174.out 0).trans rfl; have hcz7_1 : w6.cell? ⟨gb174, 1, none⟩ = some (.int .i64 a1_1) := (blk_cell BK174.out 1).trans rfl; have hfz7_0 := blk_frozen BK174.out 0; have hfz7_1 := blk_frozen BK174.out 1) | ((with_reducible refine gate_callee (f := 68) rfl ?_); refine goesL_ (some 6) rfl rfl Tryd.func68 (by kernel_rfl) rfl #[.agg #[.int .i64 a1_0, .int .i64 a1_1]] rfl (by (try simp only [List.map_toArray, List.map_cons, List.map_nil]); first | done | rfl | (simp only [List.length_drop, List.length_take]; rfl)) ?_; (with_reducible refine (shape_Good.calls a1_0 a1_1 true _ A3.out (TabOK.below hT (by repeat (first | (with_reducible first | exact HB.out | apply below_alloc | apply pw_below_drewN | apply below_drew1 | refine below_set ?_ GE174.out) | exact HB.out)))).mono ?_); rintro e w8 ⟨rfl, hb⟩; refine ⟨_, rfl, ?_⟩; have n0_ := Aside0.mk (blk_below (g := gb174) (o := .cells #[.int .i64 a1_0, .int .i64 a1_1] 23 (0, 0)) (by (with_reducible repeat (first | refine blk_drewN ?_ _ | refine blk_drew ?_ | refine blk_alloc ?_ _)); exact BK174.out) hb); have n1_ := Aside0.mk (below_step (by repeat (first | (with_reducible first | exact HB.out | apply below_alloc | apply pw_below_drewN | apply below_drew1 | refine below_set ?_ GE174.out) | exact HB.out)) hb); clear BK174; clear HB; have BK174 := n0_; have HB := n1_; clear n0_ n1_; (try clear hb); (try clear hb2); (try clear hk); (try clear hi); have hcz9_0 : w8.cell? ⟨gb174, 0, none⟩ = some (.int .i64 a1_0) := (blk_cell BK174.out 0).trans rfl; have hcz9_1 : w8.cell? ⟨gb174, 1, none⟩ = some (.int .i64 a1_1) := (blk_cell BK174.out 1).trans rfl; have hfz9_0 := blk_frozen BK174.out 0; have hfz9_1 := blk_frozen BK174.out 1) | (go_at_call 69; (with_reducible refine (shape_Size.calls a1_0 a1_1 t176 _ A5.out (TabOK.below hT (by repeat (first | (with_reducible first | exact HB.out | apply below_alloc | apply pw_below_drewN | apply below_drew1 | refine below_set ?_ GE174.out) | exact HB.out)))).mono ?_); rintro e w10 ⟨rfl, hb⟩; have n0_ := Aside0.mk (blk_below (g := gb174) (o := .cells #[.int .i64 a1_0, .int .i64 a1_1] 23 (0, 0)) (by (with_reducible repeat (first | refine blk_drewN ?_ _ | refine blk_drew ?_ | refine blk_alloc ?_ _)); exact BK174.out) hb); have n1_ := Aside0.mk (below_step (by repeat (first | (with_reducible first | exact HB.out | apply below_alloc | apply pw_below_drewN | apply below_drew1 | refine below_set ?_ GE174.out) | exact HB.out)) hb); clear BK174; clear HB; have BK174 := n0_; have HB := n1_; clear n0_ n1_; (try clear hb); (try clear hb2); (try clear hk); (try clear hi)))
    go_ret
    exact ⟨by first | rfl | (simp [errW_none, errW_some] <;> rfl) | (simp [*, errW_none, errW_some] <;> rfl), by repeat (first | (with_reducible first | exact HB.out | apply below_alloc | apply pw_below_drewN | apply below_drew1 | refine below_set ?_ GE174.out) | exact HB.out)⟩
  · replace c4 := Bool.eq_false_iff.mpr c4
    subst c4
    have H1 : (some false) = some r := by rw [if_neg (show ¬ (false = true) by decide)] at H; exact H
    clear H
    have H := H1
    clear H1
    obtain rfl := Option.some.inj H
    go_enter Tryd.func122, Tryd.ntmps122
    go_wp2_with (first | ((with_reducible refine gate_dst (N := 3) rfl ?_); (try (refine gate_guard (by rfl) ?_; dsimp only)); refine box_event ?hg (N := 3) ?hd (cs := #[.int .i64 a1_0, .int .i64 a1_1]) (t := 23) ?hr ?_; (case hd => rfl); (case hg => rfl); (case hr => first | (go_simp; done) | (go_simp; rfl)); intro gb174 hg w11 hbox hb; have n0_ := Aside0.mk (below_step (by repeat (first | (with_reducible first | exact HB.out | apply below_alloc | apply pw_below_drewN | apply below_drew1) | exact HB.out)) hb); have n1_ := Aside0.mk (hbox); have n2_ := Aside0.mk ((by rw [hg]; exact (below_size (by repeat (first | (with_reducible first | exact HB.out | apply below_alloc | apply pw_below_drewN | apply below_drew1) | exact HB.out))) : w.heap.size ≤ gb174)); have n3_ := Aside0.mk ((by rw [hg]; exact (below_size (by repeat (first | (with_reducible first | exact HB.out | apply below_alloc | apply pw_below_drewN | apply below_drew1) | exact HB.out))) : w.heap.size ≤ gb174)); clear HB; have HB := n0_; have BK174 := n1_; have GW174 := n2_; have GE174 := n3_; clear n0_ n1_ n2_ n3_; clear hb hbox hg; have hcz12_0 : w11.cell? ⟨gb174, 0, none⟩ = some (.int .i64 a1_0) := (blk_cell BK174.out 0).trans rfl; have hcz12_1 : w11.cell? ⟨gb174, 1, none⟩ = some (.int .i64 a1_1) := (blk_cell BK174.out 1).trans rfl; have hfz12_0 := blk_frozen BK174.out 0; have hfz12_1 := blk_frozen BK174.out 1) | ((with_reducible refine gate_callee (f := 68) rfl ?_); refine goesL_ (some 6) rfl rfl Tryd.func68 (by kernel_rfl) rfl #[.agg #[.int .i64 a1_0, .int .i64 a1_1]] rfl (by (try simp only [List.map_toArray, List.map_cons, List.map_nil]); first | done | rfl | (simp only [List.length_drop, List.length_take]; rfl)) ?_; (with_reducible refine (shape_Good.calls a1_0 a1_1 false _ A3.out (TabOK.below hT (by repeat (first | (with_reducible first | exact HB.out | apply below_alloc | apply pw_below_drewN | apply below_drew1 | refine below_set ?_ GE174.out) | exact HB.out)))).mono ?_); rintro e w13 ⟨rfl, hb⟩; refine ⟨_, rfl, ?_⟩; have n0_ := Aside0.mk (blk_below (g := gb174) (o := .cells #[.int .i64 a1_0, .int .i64 a1_1] 23 (0, 0)) (by (with_reducible repeat (first | refine blk_drewN ?_ _ | refine blk_drew ?_ | refine blk_alloc ?_ _)); exact BK174.out) hb); have n1_ := Aside0.mk (below_step (by repeat (first | (with_reducible first | exact HB.out | apply below_alloc | apply pw_below_drewN | apply below_drew1 | refine below_set ?_ GE174.out) | exact HB.out)) hb); clear BK174; clear HB; have BK174 := n0_; have HB := n1_; clear n0_ n1_; (try clear hb); (try clear hb2); (try clear hk); (try clear hi)))
    go_ret
    exact ⟨by first | rfl | (simp [errW_none, errW_some] <;> rfl) | (simp [*, errW_none, errW_some] <;> rfl), by repeat (first | (with_reducible first | exact HB.out | apply below_alloc | apply pw_below_drewN | apply below_drew1 | refine below_set ?_ GE174.out) | exact HB.out)⟩
mutual
def shape_Transpose.l0 : Nat → List Int → List Int → Int → Int → Int → Int → Option (List Int × Int)
  | 0, _, _, _, _, _, _ => none
  | k + 1, x0, x6, x17, x18, x178000, x178001 => if x18 < x17 then (shape_Transpose.l1 k x0 x6 x18 x17 x18 x178000 x178001) else (some (x6, 0))
def shape_Transpose.l1 : Nat → List Int → List Int → Int → Int → Int → Int → Int → Option (List Int × Int)
  | 0, _, _, _, _, _, _, _ => none
  | k + 1, x0, x6, x8, x17, x18, x178000, x178001 => if x8 < (x0.length : Int) then (if 0 ≤ x8 then (if x6.length < 17592186044416 then (shape_Transpose.l1 k x0 (x6 ++ [rd x0 x8]) (wrap64 (x8 + x178001)) x17 x18 x178000 x178001) else (none)) else (none)) else (shape_Transpose.l0 k x0 x6 x17 (wrap64 (x18 + 1)) x178000 x178001)
end
def shape_Transpose.f (k : Nat) (l0 : List Int) (a1_0 : Int) (a1_1 : Int) : Option (List Int × Int) := (shape_fits.f l0 a1_0 a1_1).bind fun t178 => (if t178 = true then (if 0 ≤ (l0.length : Int) then (if ((l0.length : Int) : Int).toNat ≤ 35184372088832 then (shape_Transpose.l0 k l0 (([] : List Int)) a1_1 0 a1_0 a1_1) else (none)) else (none)) else (some (([] : List Int), 19)))
set_option maxHeartbeats 8000000 in
set_option maxRecDepth 100000 in
theorem shape_Transpose.calls (k : Nat) (A0 : Option Addr) (c0 : Nat) (l0 : List Int) (a1_0 : Int) (a1_1 : Int) (r1 : List Int) (r2 : Int) (w : World) (hr0 : Kd.C (Kd.int .u64) w A0 l0.length l0) (hc0 : l0.length ≤ c0) (h : shape_Transpose.f k l0 a1_0 a1_1 = some (r1, r2)) (hT : TabOK w) :
    Calls Tryd.prog 89 #[.slice A0 l0.length c0, .agg #[.int .i64 a1_0, .int .i64 a1_1]] w fun e w' => ∃ v0_ : Value, e = .returned (.tuple #[v0_, .int .i64 r2]) ∧ Kd.R (Kd.int .u64) 45 w' w.heap.size (fun _ => True) v0_ r1 ∧ Below w.heap.size w w' := by
  have hu23 := Tryd.underlying23
  have HR0 := Aside0.mk hr0
  have HC0 := Aside0.mk hc0
  clear hr0 hc0
  have HB := Aside0.mk (Below.refl w.heap.size w)
  have H : ((shape_fits.f l0 a1_0 a1_1).bind fun t178 => (if t178 = true then (if 0 ≤ (l0.length : Int) then (if ((l0.length : Int) : Int).toNat ≤ 35184372088832 then (shape_Transpose.l0 k l0 (([] : List Int)) a1_1 0 a1_0 a1_1) else (none)) else (none)) else (some (([] : List Int), 19)))) = some (r1, r2) := h
  clear h
  replace H := Option.bind_eq_some_iff.mp H
  obtain ⟨t178, A30, H⟩ := H
  replace H : (if t178 = true then (if 0 ≤ (l0.length : Int) then (if ((l0.length : Int) : Int).toNat ≤ 35184372088832 then (shape_Transpose.l0 k l0 (([] : List Int)) a1_1 0 a1_0 a1_1) else (none)) else (none)) else (some (([] : List Int), 19))) = some (r1, r2) := H
  have A3 := Aside0.mk A30
  clear A30
  by_cases c4 : t178 = true
  · subst c4
    have H1 : (if 0 ≤ (l0.length : Int) then (if ((l0.length : Int) : Int).toNat ≤ 35184372088832 then (shape_Transpose.l0 k l0 (([] : List Int)) a1_1 0 a1_0 a1_1) else (none)) else (none)) = some (r1, r2) := by rw [if_pos rfl] at H; exact H
    clear H
    have H := H1
    clear H1
    by_cases c5 : 0 ≤ (l0.length : Int)
    · rw [if_pos c5] at H
      have c5b0 := eq_true c5
      have c5b1 : decide (0 ≤ (l0.length : Int)) = true := decide_eq_true c5
      clear c5
      by_cases c6 : ((l0.length : Int) : Int).toNat ≤ 35184372088832
      · rw [if_pos c6] at H
        have c6b0 := eq_true c6
        have c6b1 : decide (((l0.length : Int) : Int).toNat ≤ 35184372088832) = true := decide_eq_true c6
        clear c6
        obtain ⟨y179, hy179⟩ : ∃ y_ : List Int, y_ = (([] : List Int)) := ⟨_, rfl⟩
        replace H : (shape_Transpose.l0 k l0 y179 a1_1 0 a1_0 a1_1) = some (r1, r2) := by first | (rw [hy179]; with_reducible exact H) | (have H2_ := (Option.bind_some _ _).symm.trans H; rw [hy179]; with_reducible exact H2_) | (have H2_ := (Option.bind_some _ _).symm.trans H; with_reducible exact H2_) | with_reducible exact H | (rw [hy179]; exact H) | exact H
        have Ny179 := Aside0.mk hy179
        clear hy179
        have H' := Aside0.mk H
        clear H
        go_enter Tryd.func89, Tryd.ntmps89
        go_wp2_with (first | ((with_reducible refine gate_dst (N := 3) rfl ?_); refine box_event ?hg (N := 3) ?hd (cs := #[.int .i64 a1_0, .int .i64 a1_1]) (t := 23) ?hr ?_; (case hd => rfl); (case hg => rfl); (case hr => first | (go_simp; done) | (go_simp; rfl)); intro gb177 hg w7 hbox hb; have n0_ := Aside0.mk (below_step (by repeat (first | (with_reducible first | exact HB.out | apply below_alloc | apply pw_below_drewN | apply below_drew1) | exact HB.out)) hb); have n1_ := Aside0.mk (hbox); have n2_ := Aside0.mk ((by rw [hg]; exact (below_size (by repeat (first | (with_reducible first | exact HB.out | apply below_alloc | apply pw_below_drewN | apply below_drew1) | exact HB.out))) : w.heap.size ≤ gb177)); have n3_ := Aside0.mk ((by rw [hg]; exact (below_size (by repeat (first | (with_reducible first | exact HB.out | apply below_alloc | apply pw_below_drewN | apply below_drew1) | exact HB.out))) : w.heap.size ≤ gb177)); clear HB; have HB := n0_; have BK177 := n1_; have GW177 := n2_; have GE177 := n3_; clear n0_ n1_ n2_ n3_; clear hb hbox hg; have hcz8_0 : w7.cell? ⟨gb177, 0, none⟩ = some (.int .i64 a1_0) := (blk_cell BK177.out 0).trans rfl; have hcz8_1 : w7.cell? ⟨gb177, 1, none⟩ = some (.int .i64 a1_1) := (blk_cell BK177.out 1).trans rfl; have hfz8_0 := blk_frozen BK177.out 0; have hfz8_1 := blk_frozen BK177.out 1) | ((with_reducible refine gate_callee (f := 122) rfl ?_); refine goesL_ (some 11) rfl rfl Tryd.func122 (by kernel_rfl) rfl #[.slice A0 l0.length c0, .agg #[.int .i64 a1_0, .int .i64 a1_1]] rfl (by (try simp only [List.map_toArray, List.map_cons, List.map_nil]); first | done | rfl | (simp only [List.length_drop, List.length_take]; rfl)) ?_; (with_reducible refine (shape_fits.calls _ _ l0 a1_0 a1_1 true _ ?side1 ?side2 A3.out (TabOK.below hT (by repeat (first | (with_reducible first | exact HB.out | apply below_alloc | apply pw_below_drewN | apply below_drew1 | refine below_set ?_ GE177.out) | exact HB.out)))).mono ?_); (case side1 => repeat (first | exact (Kd.C_below HR0.out HB.out) | (with_reducible refine Kd.C_alloc ?_ _) | (with_reducible refine Kd.C_drewN ?_ _) | (with_reducible refine Kd.C_drew ?_))); (case side2 => exact HC0.out); rintro e w9 ⟨rfl, hb⟩; refine ⟨_, rfl, ?_⟩; have n0_ := Aside0.mk (blk_below (g := gb177) (o := .cells #[.int .i64 a1_0, .int .i64 a1_1] 23 (0, 0)) (by (with_reducible repeat (first | refine blk_drewN ?_ _ | refine blk_drew ?_ | refine blk_alloc ?_ _)); exact BK177.out) hb); have n1_ := Aside0.mk (below_step (by repeat (first | (with_reducible first | exact HB.out | apply below_alloc | apply pw_below_drewN | apply below_drew1 | refine below_set ?_ GE177.out) | exact HB.out)) hb); clear BK177; clear HB; have BK177 := n0_; have HB := n1_; clear n0_ n1_; (try clear hb); (try clear hb2); (try clear hk); (try clear hi)) | ((with_reducible refine gate_dst (N := 15) rfl ?_); refine KdR_makecap (Kd.int .u64) _ 45 rfl (N := 15) rfl 24 _ _ rfl (l0.length : Int) rfl rfl Tryd.underlying24 (.int .u64 0) 8 info45 rfl (by decide) (by omega) 0 (ok := fun _ => True) (okp := fun _ => True) rfl (fun _ hk => hk) trivial (of_decide_eq_true (by first | (with_reducible assumption) | assumption)) (Nat.le_trans (Nat.mul_le_mul_right _ (of_decide_eq_true (by first | (with_reducible assumption) | assumption) : (l0.length : Int).toNat ≤ 35184372088832)) (by omega)) (Below.refl _ _) (Nat.le_refl _) ?_; intro v180 w10 ho11 hb hg_ hnew_; clear hg_ hnew_; (first | rw [← Ny179.out] at ho11 | (simp only [Int.reduceToNat] at ho11; rw [← Ny179.out] at ho11)); have n0_ := Aside0.mk (Kd.R_lower ho11 (below_size (by repeat (first | (with_reducible first | exact HB.out | apply below_alloc | apply pw_below_drewN | apply below_drew1 | refine below_set ?_ GE177.out) | exact HB.out)))); have n1_ := Aside0.mk (blk_below (g := gb177) (o := .cells #[.int .i64 a1_0, .int .i64 a1_1] 23 (0, 0)) (by (with_reducible repeat (first | refine blk_drewN ?_ _ | refine blk_drew ?_ | refine blk_alloc ?_ _)); exact BK177.out) hb); have n2_ := Aside0.mk (below_step (by repeat (first | (with_reducible first | exact HB.out | apply below_alloc | apply pw_below_drewN | apply below_drew1 | refine below_set ?_ GE177.out) | exact HB.out)) hb); clear BK177; clear HB; have HO181 := n0_; have BK177 := n1_; have HB := n2_; clear n0_ n1_ n2_; clear hb ho11; have hcz12_0 : w10.cell? ⟨gb177, 0, none⟩ = some (.int .i64 a1_0) := (blk_cell BK177.out 0).trans rfl; have hcz12_1 : w10.cell? ⟨gb177, 1, none⟩ = some (.int .i64 a1_1) := (blk_cell BK177.out 1).trans rfl; have hfz12_0 := blk_frozen BK177.out 0; have hfz12_1 := blk_frozen BK177.out 1))
        go_loopg [6, 18] k (fun kq v6 v18 w' => ∃ (x6_1 : List Int) (x18_1 : Int), v18 = .int .i64 x18_1 ∧ Aside0 (shape_Transpose.l0 kq l0 x6_1 a1_1 x18_1 a1_0 a1_1 = some (r1, r2)) ∧ Aside0 (kq ≤ k) ∧ Aside0 (Kd.R (Kd.int .u64) 45 w' w.heap.size (fun _ => True) v6 x6_1) ∧ Aside0 (w'.heap[gb177]? = some (.cells #[.int .i64 a1_0, .int .i64 a1_1] 23 (0, 0))) ∧ Aside0 (Below w.heap.size w w'))
        case atStart => exact ⟨(y179), (0), (by first | rfl | (simp; done) | (simp [*]; done)), H', ⟨Nat.le_refl _⟩, ⟨by (with_reducible repeat (first | apply Kd.R_alloc | apply Kd.R_drewN | apply Kd.R_drew)); exact HO181.out⟩, ⟨by (with_reducible repeat (first | refine blk_drewN ?_ _ | refine blk_drew ?_ | refine blk_alloc ?_ _)); exact BK177.out⟩, ⟨by repeat (first | (with_reducible first | exact HB.out | apply below_alloc | apply pw_below_drewN | apply below_drew1 | refine below_set ?_ GE177.out) | exact HB.out)⟩⟩
        case round =>
          clear H'
          try clear c1
          try clear p2
          try clear c4
          try clear c5
          try clear c5b0
          try clear c5b1
          try clear c6
          try clear c6b0
          try clear c6b1
          try clear c8
          try clear c12
          try clear hcz12_0
          try clear hcz12_1
          try clear hcz8_0
          try clear hcz8_1
          try clear hfz12_0
          try clear hfz12_1
          try clear hfz8_0
          try clear hfz8_1
          obtain ⟨x6_1, x18_1, rfl, HA, HK1, HO_6, BK177, HB⟩ := hrel
          cases gk with
          | zero => exact absurd HA.out (by simp [shape_Transpose.l0])
          | succ k1 =>
            have H := HA.out
            clear HA
            simp only [shape_Transpose.l0] at H
            by_cases c13 : x18_1 < a1_1
            · rw [if_pos c13] at H
              have c13b0 : decide (x18_1 < a1_1) = true := decide_eq_true c13
              clear c13
              have H' := Aside0.mk H
              clear H
              go_wp2
              go_loopg [6, 8] k1 (fun kq v6 v8 w' => ∃ (x6_2 : List Int) (x8_2 : Int), v8 = .int .i64 x8_2 ∧ Aside0 (shape_Transpose.l1 kq l0 x6_2 x8_2 a1_1 x18_1 a1_0 a1_1 = some (r1, r2)) ∧ Aside0 (kq ≤ k1) ∧ Aside0 (Kd.R (Kd.int .u64) 45 w' w.heap.size (fun _ => True) v6 x6_2) ∧ Aside0 (w'.heap[gb177]? = some (.cells #[.int .i64 a1_0, .int .i64 a1_1] 23 (0, 0))) ∧ Aside0 (Below w.heap.size w w'))
              case atStart => exact ⟨(x6_1), (x18_1), (by first | rfl | (simp; done) | (simp [*]; done)), H', ⟨Nat.le_refl _⟩, ⟨by (with_reducible repeat (first | apply Kd.R_alloc | apply Kd.R_drewN | apply Kd.R_drew)); exact HO_6.out⟩, ⟨by (with_reducible repeat (first | refine blk_drewN ?_ _ | refine blk_drew ?_ | refine blk_alloc ?_ _)); exact BK177.out⟩, ⟨by repeat (first | (with_reducible first | exact HB.out | apply below_alloc | apply pw_below_drewN | apply below_drew1 | refine below_set ?_ GE177.out) | exact HB.out)⟩⟩
              case round =>
                clear H'
                try clear c1
                try clear p2
                try clear c4
                try clear c5
                try clear c5b0
                try clear c5b1
                try clear c6
                try clear c6b0
                try clear c6b1
                try clear c8
                try clear c12
                try clear c13
                try clear c13b0
                try clear hcz12_0
                try clear hcz12_1
                try clear hcz8_0
                try clear hcz8_1
                try clear hfz12_0
                try clear hfz12_1
                try clear hfz8_0
                try clear hfz8_1
                try clear p2
                obtain ⟨x6_2, x8_2, rfl, HA, HK2, HO_6, BK177, HB⟩ := hrel
                cases gk with
                | zero => exact absurd HA.out (by simp [shape_Transpose.l1])
                | succ k2 =>
                  have H := HA.out
                  clear HA
                  simp only [shape_Transpose.l1] at H
                  by_cases c14 : x8_2 < (l0.length : Int)
                  · rw [if_pos c14] at H
                    have c14b0 : decide (x8_2 < (l0.length : Int)) = true := decide_eq_true c14
                    clear c14
                    by_cases c15 : 0 ≤ x8_2
                    · rw [if_pos c15] at H
                      have c15b0 : decide (0 ≤ x8_2) = true := decide_eq_true c15
                      clear c15
                      by_cases c16 : x6_2.length < 17592186044416
                      · rw [if_pos c16] at H
                        have LMc16 := Aside0.mk c16
                        clear c16
                        obtain ⟨y183, hy183⟩ : ∃ y_ : List Int, y_ = (x6_2 ++ [rd l0 x8_2]) := ⟨_, rfl⟩
                        replace H : (shape_Transpose.l1 k2 l0 y183 (wrap64 (x8_2 + a1_1)) a1_1 x18_1 a1_0 a1_1) = some (r1, r2) := by first | (rw [hy183]; with_reducible exact H) | (have H2_ := (Option.bind_some _ _).symm.trans H; rw [hy183]; with_reducible exact H2_) | (have H2_ := (Option.bind_some _ _).symm.trans H; with_reducible exact H2_) | with_reducible exact H | (rw [hy183]; exact H) | exact H
                        have Ny183 := Aside0.mk hy183
                        clear hy183
                        have H' := Aside0.mk H
                        clear H
                        have p182 : 0 ≤ (x8_2 : Int) := of_decide_eq_true (by first | (with_reducible assumption) | assumption)
                        have q182 : x8_2 < (l0.length : Int) := of_decide_eq_true (by first | (with_reducible assumption) | assumption)
                        obtain ⟨ad182, e182, hx182_0⟩ := Kd.at_int HR0.out x8_2 p182 q182
                        cases e182
                        replace hx182_0 := (HB.out.cell (World.block_lt_of_cell? w _ hx182_0)).trans hx182_0
                        replace p182 := eq_true p182
                        replace q182 := eq_true q182
                        go_wp2_with (first | ((with_reducible refine gate_builtin (b := .append) (xs := #[.tmp 30, .tmp 35]) rfl ?_); at_builtin; refine Kd.R_append (Kd.int .u64) (w0 := w) w.heap.size rfl (.tmp 30) (.tmp 35) 24 45 (.int .u64 0) 8 rfl Tryd.underlying24 info45 rfl (by decide) (by omega) u6 x6_2 (rd l0 x8_2) [.int .u64 (rd l0 x8_2)] (fun _ => True) (fun _ => False) rfl rfl ?aP (fun _ hk => hk.elim) ?aF ?aO ?aB ?aS ?aL ?_; (case aP => exact rfl); (case aB => exact (by repeat (first | (with_reducible first | exact HB.out | apply below_alloc | apply pw_below_drewN | apply below_drew1 | refine below_set ?_ GE177.out) | exact HB.out))); (case aF => exact (fun _ _ => trivial)); (case aO => exact (by (with_reducible repeat (first | apply Kd.R_alloc | apply Kd.R_drewN | apply Kd.R_drew)); exact HO_6.out)); (case aS => exact (below_size (by repeat (first | (with_reducible first | exact HB.out | apply below_alloc | apply pw_below_drewN | apply below_drew1 | refine below_set ?_ GE177.out) | exact HB.out)))); (case aL => have := LMc16.out; omega); intro v184 w17 ho hb hg hat; rw [← Ny183.out] at ho; have n0_ := Aside0.mk (blk_grown (g := gb177) (o := .cells #[.int .i64 a1_0, .int .i64 a1_1] 23 (0, 0)) (by (with_reducible repeat (first | refine blk_drewN ?_ _ | refine blk_drew ?_ | refine blk_alloc ?_ _)); exact BK177.out) hg (Kd.R_ne HO_6.out BK177.out (by decide))); have n1_ := Aside0.mk (hb); have n2_ := Aside0.mk (ho); clear BK177; clear HB; clear HO_6; have BK177 := n0_; have HB := n1_; have HO185 := n2_; clear n0_ n1_ n2_; clear ho hb hg hat; have hcz18_0 : w17.cell? ⟨gb177, 0, none⟩ = some (.int .i64 a1_0) := (blk_cell BK177.out 0).trans rfl; have hcz18_1 : w17.cell? ⟨gb177, 1, none⟩ = some (.int .i64 a1_1) := (blk_cell BK177.out 1).trans rfl; have hfz18_0 := blk_frozen BK177.out 0; have hfz18_1 := blk_frozen BK177.out 1))
                        go_roundg k2
                        case measure => have := HK1.out; have := HK2.out; omega
                        case rel => exact ⟨(y183), (wrap64 (x8_2 + a1_1)), (by first | rfl | (simp; done) | (simp [*]; done)), H', ⟨by have := HK1.out; have := HK2.out; omega⟩, ⟨by (with_reducible repeat (first | apply Kd.R_alloc | apply Kd.R_drewN | apply Kd.R_drew)); exact HO185.out⟩, ⟨by (with_reducible repeat (first | refine blk_drewN ?_ _ | refine blk_drew ?_ | refine blk_alloc ?_ _)); exact BK177.out⟩, ⟨by repeat (first | (with_reducible first | exact HB.out | apply below_alloc | apply pw_below_drewN | apply below_drew1 | refine below_set ?_ GE177.out) | exact HB.out)⟩⟩
                      · rw [if_neg c16] at H
                        exact absurd H (by simp)
                    · rw [if_neg c15] at H
                      exact absurd H (by simp)
                  · rw [if_neg c14] at H
                    have c14b0 : decide (x8_2 < (l0.length : Int)) = false := decide_eq_false c14
                    clear c14
                    have H' := Aside0.mk H
                    clear H
                    go_wp2
                    go_roundg k2
                    case measure => have := HK1.out; have := HK2.out; omega
                    case rel => exact ⟨(x6_2), (wrap64 (x18_1 + 1)), (by first | rfl | (simp; done) | (simp [*]; done)), H', ⟨by have := HK1.out; have := HK2.out; omega⟩, ⟨by (with_reducible repeat (first | apply Kd.R_alloc | apply Kd.R_drewN | apply Kd.R_drew)); exact HO_6.out⟩, ⟨by (with_reducible repeat (first | refine blk_drewN ?_ _ | refine blk_drew ?_ | refine blk_alloc ?_ _)); exact BK177.out⟩, ⟨by repeat (first | (with_reducible first | exact HB.out | apply below_alloc | apply pw_below_drewN | apply below_drew1 | refine below_set ?_ GE177.out) | exact HB.out)⟩⟩
            · rw [if_neg c13] at H
              have c13b0 : decide (x18_1 < a1_1) = false := decide_eq_false c13
              clear c13
              simp only [Option.some.injEq, Prod.mk.injEq] at H
              obtain ⟨rfl, rfl⟩ := H
              go_wp2
              go_ret2
              exact ⟨_, by first | rfl | (simp [errW_none, errW_some] <;> rfl) | (simp [*, errW_none, errW_some] <;> rfl), by (with_reducible repeat (first | apply Kd.R_alloc | apply Kd.R_drewN | apply Kd.R_drew)); exact HO_6.out, by repeat (first | (with_reducible first | exact HB.out | apply below_alloc | apply pw_below_drewN | apply below_drew1 | refine below_set ?_ GE177.out) | exact HB.out)⟩
      · rw [if_neg c6] at H
        exact absurd H (by simp)
    · rw [if_neg c5] at H
      exact absurd H (by simp)
  · replace c4 := Bool.eq_false_iff.mpr c4
    subst c4
    have H1 : (some (([] : List Int), 19)) = some (r1, r2) := by rw [if_neg (show ¬ (false = true) by decide)] at H; exact H
    clear H
    have H := H1
    clear H1
    simp only [Option.some.injEq, Prod.mk.injEq] at H
    obtain ⟨rfl, rfl⟩ := H
    go_enter Tryd.func89, Tryd.ntmps89
    go_wp2_with (first | ((with_reducible refine gate_dst (N := 3) rfl ?_); refine box_event ?hg (N := 3) ?hd (cs := #[.int .i64 a1_0, .int .i64 a1_1]) (t := 23) ?hr ?_; (case hd => rfl); (case hg => rfl); (case hr => first | (go_simp; done) | (go_simp; rfl)); intro gb177 hg w19 hbox hb; have n0_ := Aside0.mk (below_step (by repeat (first | (with_reducible first | exact HB.out | apply below_alloc | apply pw_below_drewN | apply below_drew1) | exact HB.out)) hb); have n1_ := Aside0.mk (hbox); have n2_ := Aside0.mk ((by rw [hg]; exact (below_size (by repeat (first | (with_reducible first | exact HB.out | apply below_alloc | apply pw_below_drewN | apply below_drew1) | exact HB.out))) : w.heap.size ≤ gb177)); have n3_ := Aside0.mk ((by rw [hg]; exact (below_size (by repeat (first | (with_reducible first | exact HB.out | apply below_alloc | apply pw_below_drewN | apply below_drew1) | exact HB.out))) : w.heap.size ≤ gb177)); clear HB; have HB := n0_; have BK177 := n1_; have GW177 := n2_; have GE177 := n3_; clear n0_ n1_ n2_ n3_; clear hb hbox hg; have hcz20_0 : w19.cell? ⟨gb177, 0, none⟩ = some (.int .i64 a1_0) := (blk_cell BK177.out 0).trans rfl; have hcz20_1 : w19.cell? ⟨gb177, 1, none⟩ = some (.int .i64 a1_1) := (blk_cell BK177.out 1).trans rfl; have hfz20_0 := blk_frozen BK177.out 0; have hfz20_1 := blk_frozen BK177.out 1) | ((with_reducible refine gate_callee (f := 122) rfl ?_); refine goesL_ (some 11) rfl rfl Tryd.func122 (by kernel_rfl) rfl #[.slice A0 l0.length c0, .agg #[.int .i64 a1_0, .int .i64 a1_1]] rfl (by (try simp only [List.map_toArray, List.map_cons, List.map_nil]); first | done | rfl | (simp only [List.length_drop, List.length_take]; rfl)) ?_; (with_reducible refine (shape_fits.calls _ _ l0 a1_0 a1_1 false _ ?side1 ?side2 A3.out (TabOK.below hT (by repeat (first | (with_reducible first | exact HB.out | apply below_alloc | apply pw_below_drewN | apply below_drew1 | refine below_set ?_ GE177.out) | exact HB.out)))).mono ?_); (case side1 => repeat (first | exact (Kd.C_below HR0.out HB.out) | (with_reducible refine Kd.C_alloc ?_ _) | (with_reducible refine Kd.C_drewN ?_ _) | (with_reducible refine Kd.C_drew ?_))); (case side2 => exact HC0.out); rintro e w21 ⟨rfl, hb⟩; refine ⟨_, rfl, ?_⟩; have n0_ := Aside0.mk (blk_below (g := gb177) (o := .cells #[.int .i64 a1_0, .int .i64 a1_1] 23 (0, 0)) (by (with_reducible repeat (first | refine blk_drewN ?_ _ | refine blk_drew ?_ | refine blk_alloc ?_ _)); exact BK177.out) hb); have n1_ := Aside0.mk (below_step (by repeat (first | (with_reducible first | exact HB.out | apply below_alloc | apply pw_below_drewN | apply below_drew1 | refine below_set ?_ GE177.out) | exact HB.out)) hb); clear BK177; clear HB; have BK177 := n0_; have HB := n1_; clear n0_ n1_; (try clear hb); (try clear hb2); (try clear hk); (try clear hi)))
    go_ret2
    exact ⟨_, by first | rfl | (simp [errW_none, errW_some] <;> rfl) | (simp [*, errW_none, errW_some] <;> rfl), by first | exact Kd.R_nil _ _ _ _ _ | exact Kd.N_nil _ _ _ _ _ | exact Kd.V_nil _ _ _ _ _ | exact Kd.Q_nil _ _ _ _ _ | exact Kd.S_nil _ _ _ _ _, by repeat (first | (with_reducible first | exact HB.out | apply below_alloc | apply pw_below_drewN | apply below_drew1 | refine below_set ?_ GE177.out) | exact HB.out)⟩
def rows_direction.f (a0 : Int) : Option (Bool) := if a0 = 0 then (some true) else (some (a0 == 1))
set_option maxHeartbeats 8000000 in
set_option maxRecDepth 100000 in
theorem rows_direction.calls (a0 : Int) (r : Bool) (w : World) (h : rows_direction.f a0 = some r) :
    Calls Tryd.prog 103 #[.int .i64 a0] w fun e w' => e = .returned (.bool r) ∧ Drawn0 w w' := by
  have H : (if a0 = 0 then (some true) else (some (a0 == 1))) = some r := h
  clear h
  by_cases c2 : a0 = 0
  · rw [if_pos c2] at H
    have c2b0 : (a0 == 0) = true := beq_iff_eq.mpr c2
    have c2b1 : (a0 != 0) = false := bne_eq_false_iff_eq.mpr c2
    clear c2
    obtain rfl := Option.some.inj H
    go_enter Tryd.func103, Tryd.ntmps103
    go_wp2
    go_ret
    exact ⟨by first | rfl | (simp; done) | (simp [*]; done), by repeat (first | exact Drawn0.refl _ | apply Drawn0.step)⟩
  · rw [if_neg c2] at H
    have c2b0 : (a0 == 0) = false := beq_eq_false_iff_ne.mpr c2
    have c2b1 : (a0 != 0) = true := bne_iff_ne.mpr c2
    obtain rfl := Option.some.inj H
    go_enter Tryd.func103, Tryd.ntmps103
    go_wp2
    go_ret
    exact ⟨by first | rfl | (simp; done) | (simp [*]; done), by repeat (first | exact Drawn0.refl _ | apply Drawn0.step)⟩
end Go.Proofs.YtpnkcjnemoompaaDoor.PFft
end
section
namespace Go.Proofs.YtpnkcjnemoompaaDoor.PFft
open Go.RowKit Go.Proofs.YtpnkcjnemoompaaDoor.Ext Go.Proofs.YtpnkcjnemoompaaDoor.PPlan Go.Proofs.YtpnkcjnemoompaaDoorW.PrintWords Go.Proofs.YtpnkcjnemoompaaDoorW.PrintLast Go.Proofs.YtpnkcjnemoompaaDoorW.PrintMore
attribute [local go_sem] max2_int min2_int max_two min_two max_three min_three max_four min_four   -- for this text's walks alone
set_option linter.unusedVariables false
set_option linter.unusedSimpArgs false
def abacistref08_Scale.l0 : Nat → List Int → Int → List Int → Int → Option (List Int)
  | 0, _, _, _, _ => none
  | k + 1, x0, x1, x5, x6 => if x6 < (x0.length : Int) then (if 0 ≤ x6 then ((abacistref02_Mul.f k (rd x0 x6) x1).bind fun t218 => (if x5.length < 17592186044416 then (abacistref08_Scale.l0 k x0 x1 (x5 ++ [t218]) (wrap64 (x6 + 1))) else (none))) else (none)) else (some x5)
def abacistref08_Scale.f (k : Nat) (l0 : List Int) (a1 : Int) : Option (List Int) := abacistref08_Scale.l0 k l0 a1 ([] : List Int) 0
set_option maxHeartbeats 8000000 in
set_option maxRecDepth 100000 in
theorem abacistref08_Scale.calls (k : Nat) (A0 : Option Addr) (c0 : Nat) (l0 : List Int) (a1 : Int) (r : List Int) (w : World) (hr0 : Kd.C (Kd.int .u64) w A0 l0.length l0) (hc0 : l0.length ≤ c0) (h : abacistref08_Scale.f k l0 a1 = some r) :
    Calls Tryd.prog 54 #[.slice A0 l0.length c0, .int .u64 a1] w fun e w' => ∃ v0_ : Value, e = .returned (v0_) ∧ Kd.R (Kd.int .u64) 45 w' w.heap.size (fun _ => True) v0_ r ∧ Below w.heap.size w w' := by
  have HR0 := Aside0.mk hr0
  have HC0 := Aside0.mk hc0
  clear hr0 hc0
  have HB := Aside0.mk (Below.refl w.heap.size w)
  have H : (abacistref08_Scale.l0 k l0 a1 ([] : List Int) 0) = some r := h
  clear h
  have H' := Aside0.mk H
  clear H
  go_enter Tryd.func54, Tryd.ntmps54
  go_wp2
  go_loopg [5, 6] k (fun kq v5 v6 w' => ∃ (x5_1 : List Int) (x6_1 : Int), v6 = .int .i64 x6_1 ∧ Aside0 (abacistref08_Scale.l0 kq l0 a1 x5_1 x6_1 = some r) ∧ Aside0 (kq ≤ k) ∧ Aside0 (Kd.R (Kd.int .u64) 45 w' w.heap.size (fun _ => True) v5 x5_1) ∧ Aside0 (Below w.heap.size w w'))
  case atStart => exact ⟨(([] : List Int)), (0), (by first | rfl | (simp; done) | (simp [*]; done)), H', ⟨Nat.le_refl _⟩, ⟨by first | exact Kd.R_nil _ _ _ _ _ | exact Kd.N_nil _ _ _ _ _ | exact Kd.V_nil _ _ _ _ _ | exact Kd.Q_nil _ _ _ _ _ | exact Kd.S_nil _ _ _ _ _⟩, ⟨by repeat (first | (with_reducible first | exact HB.out | apply below_alloc | apply pw_below_drewN | apply below_drew1) | exact HB.out)⟩⟩
  case round =>
    clear H'
    try clear p2
    obtain ⟨x5_1, x6_1, rfl, HA, HK1, HO_5, HB⟩ := hrel
    cases gk with
    | zero => exact absurd HA.out (by simp [abacistref08_Scale.l0])
    | succ k1 =>
      have H := HA.out
      clear HA
      simp only [abacistref08_Scale.l0] at H
      by_cases c3 : x6_1 < (l0.length : Int)
      · rw [if_pos c3] at H
        have c3b0 : decide (x6_1 < (l0.length : Int)) = true := decide_eq_true c3
        clear c3
        by_cases c4 : 0 ≤ x6_1
        · rw [if_pos c4] at H
          have c4b0 : decide (0 ≤ x6_1) = true := decide_eq_true c4
          clear c4
          replace H := Option.bind_eq_some_iff.mp H
          obtain ⟨t218, A50, H⟩ := H
          replace H : (if x5_1.length < 17592186044416 then (abacistref08_Scale.l0 k1 l0 a1 (x5_1 ++ [t218]) (wrap64 (x6_1 + 1))) else (none)) = some r := H
          have A5 := Aside0.mk A50
          clear A50
          by_cases c6 : x5_1.length < 17592186044416
          · rw [if_pos c6] at H
            have LMc6 := Aside0.mk c6
            clear c6
            obtain ⟨y219, hy219⟩ : ∃ y_ : List Int, y_ = (x5_1 ++ [t218]) := ⟨_, rfl⟩
            replace H : (abacistref08_Scale.l0 k1 l0 a1 y219 (wrap64 (x6_1 + 1))) = some r := by first | (rw [hy219]; with_reducible exact H) | (have H2_ := (Option.bind_some _ _).symm.trans H; rw [hy219]; with_reducible exact H2_) | (have H2_ := (Option.bind_some _ _).symm.trans H; with_reducible exact H2_) | with_reducible exact H | (rw [hy219]; exact H) | exact H
            have Ny219 := Aside0.mk hy219
            clear hy219
            have H' := Aside0.mk H
            clear H
            have p217 : 0 ≤ (x6_1 : Int) := of_decide_eq_true (by first | (with_reducible assumption) | assumption)
            have q217 : x6_1 < (l0.length : Int) := of_decide_eq_true (by first | (with_reducible assumption) | assumption)
            obtain ⟨ad217, e217, hx217_0⟩ := Kd.at_int HR0.out x6_1 p217 q217
            cases e217
            replace hx217_0 := (HB.out.cell (World.block_lt_of_cell? w _ hx217_0)).trans hx217_0
            replace p217 := eq_true p217
            replace q217 := eq_true q217
            go_wp2_with (first | ((with_reducible refine gate_callee (f := 28) rfl ?_); refine goesL_ (some 19) rfl rfl Tryd.func28 (by kernel_rfl) rfl #[.int .u64 (rd l0 x6_1), .int .u64 a1] rfl (by (try simp only [List.map_toArray, List.map_cons, List.map_nil]); first | done | rfl | (simp only [List.length_drop, List.length_take]; rfl)) ?_; (with_reducible refine (abacistref02_Mul.calls k1 (rd l0 x6_1) a1 t218 _ A5.out).mono ?_); rintro e w' ⟨rfl, ⟨nd, rfl⟩⟩; refine ⟨_, rfl, ?_⟩) | ((with_reducible refine gate_builtin (b := .append) (xs := #[.tmp 13, .tmp 20]) rfl ?_); at_builtin; refine Kd.R_append (Kd.int .u64) (w0 := w) w.heap.size rfl (.tmp 13) (.tmp 20) 24 45 (.int .u64 0) 8 rfl Tryd.underlying24 info45 rfl (by decide) (by omega) u5 x5_1 t218 [.int .u64 t218] (fun _ => True) (fun _ => False) rfl rfl ?aP (fun _ hk => hk.elim) ?aF ?aO ?aB ?aS ?aL ?_; (case aP => exact rfl); (case aB => exact (by repeat (first | (with_reducible first | exact HB.out | apply below_alloc | apply pw_below_drewN | apply below_drew1) | exact HB.out))); (case aF => exact (fun _ _ => trivial)); (case aO => exact (by (with_reducible repeat (first | apply Kd.R_alloc | apply Kd.R_drewN | apply Kd.R_drew)); exact HO_5.out)); (case aS => exact (below_size (by repeat (first | (with_reducible first | exact HB.out | apply below_alloc | apply pw_below_drewN | apply below_drew1) | exact HB.out)))); (case aL => have := LMc6.out; omega); intro v220 w7 ho hb hg hat; rw [← Ny219.out] at ho; have n0_ := Aside0.mk (hb); have n1_ := Aside0.mk (ho); clear HB; clear HO_5; have HB := n0_; have HO221 := n1_; clear n0_ n1_; clear ho hb hg hat))
            go_roundg k1
            case measure => have := HK1.out; omega
            case rel => exact ⟨(y219), (wrap64 (x6_1 + 1)), (by first | rfl | (simp; done) | (simp [*]; done)), H', ⟨by have := HK1.out; omega⟩, ⟨by (with_reducible repeat (first | apply Kd.R_alloc | apply Kd.R_drewN | apply Kd.R_drew)); exact HO221.out⟩, ⟨by repeat (first | (with_reducible first | exact HB.out | apply below_alloc | apply pw_below_drewN | apply below_drew1) | exact HB.out)⟩⟩
          · rw [if_neg c6] at H
            exact absurd H (by simp)
        · rw [if_neg c4] at H
          exact absurd H (by simp)
      · rw [if_neg c3] at H
        have c3b0 : decide (x6_1 < (l0.length : Int)) = false := decide_eq_false c3
        clear c3
        obtain rfl := Option.some.inj H
        go_wp2
        go_ret
        exact ⟨_, by first | rfl | (simp [errW_none, errW_some] <;> rfl) | (simp [*, errW_none, errW_some] <;> rfl), by (with_reducible repeat (first | apply Kd.R_alloc | apply Kd.R_drewN | apply Kd.R_drew)); exact HO_5.out, by repeat (first | (with_reducible first | exact HB.out | apply below_alloc | apply pw_below_drewN | apply below_drew1) | exact HB.out)⟩
end Go.Proofs.YtpnkcjnemoompaaDoor.PFft
end
section
namespace Go.Proofs.YtpnkcjnemoompaaDoor.PFft
open Go.RowKit Go.Proofs.YtpnkcjnemoompaaDoor.Ext Go.Proofs.YtpnkcjnemoompaaDoor.PPlan Go.Proofs.YtpnkcjnemoompaaDoorW.PrintWords Go.Proofs.YtpnkcjnemoompaaDoorW.PrintLast Go.Proofs.YtpnkcjnemoompaaDoorW.PrintMore
attribute [local go_sem] max2_int min2_int max_two min_two max_three min_three max_four min_four   -- for this text's walks alone
set_option linter.unusedVariables false
set_option linter.unusedSimpArgs false
def abacistref03_Root.l0 : Nat → Int → Int → Int → Option (Int)
  | 0, _, _, _ => none
  | k + 1, x0, x3, x4 => if x4 < x0 then (abacistref03_Root.l0 k x0 (IntKind.u64.wrap (Int.tdiv x3 2)) (wrap64 (x4 + 1))) else ((abacistref02_Pow.f k 7 x3).bind fun t222 => (some t222))
def abacistref03_Root.f (k : Nat) (a0 : Int) : Option (Int) := abacistref03_Root.l0 k a0 18446744069414584320 0
set_option maxHeartbeats 8000000 in
set_option maxRecDepth 100000 in
theorem abacistref03_Root.calls (k : Nat) (a0 : Int) (r : Int) (w : World) (h : abacistref03_Root.f k a0 = some r) :
    Calls Tryd.prog 109 #[.int .i64 a0] w fun e w' => e = .returned (.int .u64 r) ∧ Drawn0 w w' := by
  have H : (abacistref03_Root.l0 k a0 18446744069414584320 0) = some r := h
  clear h
  have H' := Aside0.mk H
  clear H
  go_enter Tryd.func109, Tryd.ntmps109
  go_wp2
  go_loopg [3, 4] k (fun kq v3 v4 w' => ∃ (x3_1 : Int) (x4_1 : Int), v3 = .int .u64 x3_1 ∧ v4 = .int .i64 x4_1 ∧ Aside0 (abacistref03_Root.l0 kq a0 x3_1 x4_1 = some r) ∧ Aside0 (kq ≤ k) ∧ Drawn0 w w')
  case atStart => exact ⟨(18446744069414584320), (0), (by first | rfl | (simp; done) | (simp [*]; done)), (by first | rfl | (simp; done) | (simp [*]; done)), H', ⟨Nat.le_refl _⟩, by repeat (first | exact Drawn0.refl _ | apply Drawn0.step)⟩
  case round =>
    clear H'
    try clear c1
    obtain ⟨x3_1, x4_1, rfl, rfl, HA, HK1, ⟨m1, rfl⟩⟩ := hrel
    cases gk with
    | zero => exact absurd HA.out (by simp [abacistref03_Root.l0])
    | succ k1 =>
      have H := HA.out
      clear HA
      simp only [abacistref03_Root.l0] at H
      by_cases c2 : x4_1 < a0
      · rw [if_pos c2] at H
        have c2b0 : decide (x4_1 < a0) = true := decide_eq_true c2
        clear c2
        have H' := Aside0.mk H
        clear H
        go_wp2
        go_roundg k1
        case measure => have := HK1.out; omega
        case rel => exact ⟨(IntKind.u64.wrap (Int.tdiv x3_1 2)), (wrap64 (x4_1 + 1)), (by first | rfl | (simp; done) | (simp [*]; done)), (by first | rfl | (simp; done) | (simp [*]; done)), H', ⟨by have := HK1.out; omega⟩, by repeat (first | exact Drawn0.refl _ | apply Drawn0.step)⟩
      · rw [if_neg c2] at H
        have c2b0 : decide (x4_1 < a0) = false := decide_eq_false c2
        clear c2
        replace H := Option.bind_eq_some_iff.mp H
        obtain ⟨t222, A30, H⟩ := H
        replace H : (some t222) = some r := H
        have A3 := Aside0.mk A30
        clear A30
        obtain rfl := Option.some.inj H
        go_wp2_with (first | ((with_reducible refine gate_callee (f := 73) rfl ?_); refine goesL_ (some 13) rfl rfl Tryd.func73 (by kernel_rfl) rfl #[.int .u64 7, .int .u64 x3_1] rfl (by (try simp only [List.map_toArray, List.map_cons, List.map_nil]); first | done | rfl | (simp only [List.length_drop, List.length_take]; rfl)) ?_; (with_reducible refine (abacistref02_Pow.calls k1 7 x3_1 t222 _ A3.out).mono ?_); rintro e w' ⟨rfl, ⟨nd, rfl⟩⟩; refine ⟨_, rfl, ?_⟩))
        go_ret
        exact ⟨by first | rfl | (simp; done) | (simp [*]; done), by repeat (first | exact Drawn0.refl _ | apply Drawn0.step)⟩
def abacistref08_Root.l0 : Nat → Int → Int → Int → Int → Option (Int)
  | 0, _, _, _, _ => none
  | k + 1, x0, x5, x6, x7 => if x7 < x0 then (abacistref08_Root.l0 k x0 x5 (IntKind.u64.wrap (2 * x6)) (wrap64 (x7 + 1))) else ((abacistref02_Pow.f k x5 (IntKind.u64.wrap (x6 - 1))).bind fun t224 => (some t224))
def abacistref08_Root.f (k : Nat) (a0 : Int) (a1 : Int) : Option (Int) := (abacistref03_Root.f k a0).bind fun t223 => (if a1 = 0 then (some t223) else (abacistref08_Root.l0 k a0 t223 1 0))
set_option maxHeartbeats 8000000 in
set_option maxRecDepth 100000 in
theorem abacistref08_Root.calls (k : Nat) (a0 : Int) (a1 : Int) (r : Int) (w : World) (h : abacistref08_Root.f k a0 a1 = some r) :
    Calls Tryd.prog 72 #[.int .i64 a0, .int .i64 a1] w fun e w' => e = .returned (.int .u64 r) ∧ Drawn0 w w' := by
  have H : ((abacistref03_Root.f k a0).bind fun t223 => (if a1 = 0 then (some t223) else (abacistref08_Root.l0 k a0 t223 1 0))) = some r := h
  clear h
  replace H := Option.bind_eq_some_iff.mp H
  obtain ⟨t223, A30, H⟩ := H
  replace H : (if a1 = 0 then (some t223) else (abacistref08_Root.l0 k a0 t223 1 0)) = some r := H
  have A3 := Aside0.mk A30
  clear A30
  by_cases c4 : a1 = 0
  · rw [if_pos c4] at H
    have c4b0 : (a1 == 0) = true := beq_iff_eq.mpr c4
    have c4b1 : (a1 != 0) = false := bne_eq_false_iff_eq.mpr c4
    clear c4
    obtain rfl := Option.some.inj H
    go_enter Tryd.func72, Tryd.ntmps72
    go_wp2_with (first | ((with_reducible refine gate_callee (f := 109) rfl ?_); refine goesL_ (some 9) rfl rfl Tryd.func109 (by kernel_rfl) rfl #[.int .i64 a0] rfl (by (try simp only [List.map_toArray, List.map_cons, List.map_nil]); first | done | rfl | (simp only [List.length_drop, List.length_take]; rfl)) ?_; (with_reducible refine (abacistref03_Root.calls k a0 t223 _ A3.out).mono ?_); rintro e w' ⟨rfl, ⟨nd, rfl⟩⟩; refine ⟨_, rfl, ?_⟩))
    go_ret
    exact ⟨by first | rfl | (simp; done) | (simp [*]; done), by repeat (first | exact Drawn0.refl _ | apply Drawn0.step)⟩
  · rw [if_neg c4] at H
    have c4b0 : (a1 == 0) = false := beq_eq_false_iff_ne.mpr c4
    have c4b1 : (a1 != 0) = true := bne_iff_ne.mpr c4
    have H' := Aside0.mk H
    clear H
    go_enter Tryd.func72, Tryd.ntmps72
    go_wp2_with (first | ((with_reducible refine gate_callee (f := 109) rfl ?_); refine goesL_ (some 9) rfl rfl Tryd.func109 (by kernel_rfl) rfl #[.int .i64 a0] rfl (by (try simp only [List.map_toArray, List.map_cons, List.map_nil]); first | done | rfl | (simp only [List.length_drop, List.length_take]; rfl)) ?_; (with_reducible refine (abacistref03_Root.calls k a0 t223 _ A3.out).mono ?_); rintro e w' ⟨rfl, ⟨nd, rfl⟩⟩; refine ⟨_, rfl, ?_⟩))
    go_loopg [6, 7] k (fun kq v6 v7 w' => ∃ (x6_1 : Int) (x7_1 : Int), v6 = .int .u64 x6_1 ∧ v7 = .int .i64 x7_1 ∧ Aside0 (abacistref08_Root.l0 kq a0 t223 x6_1 x7_1 = some r) ∧ Aside0 (kq ≤ k) ∧ Drawn0 w w')
    case atStart => exact ⟨(1), (0), (by first | rfl | (simp; done) | (simp [*]; done)), (by first | rfl | (simp; done) | (simp [*]; done)), H', ⟨Nat.le_refl _⟩, by repeat (first | exact Drawn0.refl _ | apply Drawn0.step)⟩
    case round =>
      clear H'
      try clear c1
      try clear p2
      try clear c4
      try clear c4b0
      try clear c4b1
      obtain ⟨x6_1, x7_1, rfl, rfl, HA, HK1, ⟨m1, rfl⟩⟩ := hrel
      cases gk with
      | zero => exact absurd HA.out (by simp [abacistref08_Root.l0])
      | succ k1 =>
        have H := HA.out
        clear HA
        simp only [abacistref08_Root.l0] at H
        by_cases c5 : x7_1 < a0
        · rw [if_pos c5] at H
          have c5b0 : decide (x7_1 < a0) = true := decide_eq_true c5
          clear c5
          have H' := Aside0.mk H
          clear H
          go_wp2
          go_roundg k1
          case measure => have := HK1.out; omega
          case rel => exact ⟨(IntKind.u64.wrap (2 * x6_1)), (wrap64 (x7_1 + 1)), (by first | rfl | (simp; done) | (simp [*]; done)), (by first | rfl | (simp; done) | (simp [*]; done)), H', ⟨by have := HK1.out; omega⟩, by repeat (first | exact Drawn0.refl _ | apply Drawn0.step)⟩
        · rw [if_neg c5] at H
          have c5b0 : decide (x7_1 < a0) = false := decide_eq_false c5
          clear c5
          replace H := Option.bind_eq_some_iff.mp H
          obtain ⟨t224, A60, H⟩ := H
          replace H : (some t224) = some r := H
          have A6 := Aside0.mk A60
          clear A60
          obtain rfl := Option.some.inj H
          go_wp2_with (first | ((with_reducible refine gate_callee (f := 73) rfl ?_); refine goesL_ (some 23) rfl rfl Tryd.func73 (by kernel_rfl) rfl #[.int .u64 t223, .int .u64 (IntKind.u64.wrap (x6_1 - 1))] rfl (by (try simp only [List.map_toArray, List.map_cons, List.map_nil]); first | done | rfl | (simp only [List.length_drop, List.length_take]; rfl)) ?_; (with_reducible refine (abacistref02_Pow.calls k1 t223 (IntKind.u64.wrap (x6_1 - 1)) t224 _ A6.out).mono ?_); rintro e w' ⟨rfl, ⟨nd, rfl⟩⟩; refine ⟨_, rfl, ?_⟩))
          go_ret
          exact ⟨by first | rfl | (simp; done) | (simp [*]; done), by repeat (first | exact Drawn0.refl _ | apply Drawn0.step)⟩
mutual
def abacistref08_Dft.l0 : Nat → List Int → Int → List Int → Int → Int → Option (List Int)
  | 0, _, _, _, _, _ => none
  | k + 1, x0, x7, x8, x9, x10 => if x10 < (x0.length : Int) then (abacistref08_Dft.l1 k x0 x7 x8 x9 x10 0 1 0) else (some x8)
def abacistref08_Dft.l1 : Nat → List Int → Int → List Int → Int → Int → Int → Int → Int → Option (List Int)
  | 0, _, _, _, _, _, _, _, _ => none
  | k + 1, x0, x7, x8, x9, x10, x11, x12, x13 => if x13 < (x0.length : Int) then (if 0 ≤ x13 then ((abacistref02_Mul.f k (rd x0 x13) x12).bind fun t227 => ((abacistref02_Add.f x11 t227).bind fun t228 => ((abacistref02_Mul.f k x12 x9).bind fun t229 => (abacistref08_Dft.l1 k x0 x7 x8 x9 x10 t228 t229 (wrap64 (x13 + 1)))))) else (none)) else (if x8.length < 17592186044416 then ((abacistref02_Mul.f k x9 x7).bind fun t233 => (abacistref08_Dft.l0 k x0 x7 (x8 ++ [x11]) t233 (wrap64 (x10 + 1)))) else (none))
end
def abacistref08_Dft.f (k : Nat) (l0 : List Int) (a1 : Int) (a2 : Int) : Option (List Int) := (abacistref08_Root.f k a1 a2).bind fun t225 => (abacistref08_Dft.l0 k l0 t225 ([] : List Int) 1 0)
set_option maxHeartbeats 8000000 in
set_option maxRecDepth 100000 in
theorem abacistref08_Dft.calls (k : Nat) (A0 : Option Addr) (c0 : Nat) (l0 : List Int) (a1 : Int) (a2 : Int) (r : List Int) (w : World) (hr0 : Kd.C (Kd.int .u64) w A0 l0.length l0) (hc0 : l0.length ≤ c0) (h : abacistref08_Dft.f k l0 a1 a2 = some r) :
    Calls Tryd.prog 90 #[.slice A0 l0.length c0, .int .i64 a1, .int .i64 a2] w fun e w' => ∃ v0_ : Value, e = .returned (v0_) ∧ Kd.R (Kd.int .u64) 45 w' w.heap.size (fun _ => True) v0_ r ∧ Below w.heap.size w w' := by
  have HR0 := Aside0.mk hr0
  have HC0 := Aside0.mk hc0
  clear hr0 hc0
  have HB := Aside0.mk (Below.refl w.heap.size w)
  have H : ((abacistref08_Root.f k a1 a2).bind fun t225 => (abacistref08_Dft.l0 k l0 t225 ([] : List Int) 1 0)) = some r := h
  clear h
  replace H := Option.bind_eq_some_iff.mp H
  obtain ⟨t225, A40, H⟩ := H
  replace H : (abacistref08_Dft.l0 k l0 t225 ([] : List Int) 1 0) = some r := H
  have A4 := Aside0.mk A40
  clear A40
  have H' := Aside0.mk H
  clear H
  go_enter Tryd.func90, Tryd.ntmps90
  go_wp2_with (first | ((with_reducible refine gate_callee (f := 72) rfl ?_); refine goesL_ (some 16) rfl rfl Tryd.func72 (by kernel_rfl) rfl #[.int .i64 a1, .int .i64 a2] rfl (by (try simp only [List.map_toArray, List.map_cons, List.map_nil]); first | done | rfl | (simp only [List.length_drop, List.length_take]; rfl)) ?_; (with_reducible refine (abacistref08_Root.calls k a1 a2 t225 _ A4.out).mono ?_); rintro e w' ⟨rfl, ⟨nd, rfl⟩⟩; refine ⟨_, rfl, ?_⟩))
  go_loopg [8, 9, 10] k (fun kq v8 v9 v10 w' => ∃ (x8_1 : List Int) (x9_1 : Int) (x10_1 : Int), v9 = .int .u64 x9_1 ∧ v10 = .int .i64 x10_1 ∧ Aside0 (abacistref08_Dft.l0 kq l0 t225 x8_1 x9_1 x10_1 = some r) ∧ Aside0 (kq ≤ k) ∧ Aside0 (Kd.R (Kd.int .u64) 45 w' w.heap.size (fun _ => True) v8 x8_1) ∧ Aside0 (Below w.heap.size w w'))
  case atStart => exact ⟨(([] : List Int)), (1), (0), (by first | rfl | (simp; done) | (simp [*]; done)), (by first | rfl | (simp; done) | (simp [*]; done)), H', ⟨Nat.le_refl _⟩, ⟨by first | exact Kd.R_nil _ _ _ _ _ | exact Kd.N_nil _ _ _ _ _ | exact Kd.V_nil _ _ _ _ _ | exact Kd.Q_nil _ _ _ _ _ | exact Kd.S_nil _ _ _ _ _⟩, ⟨by repeat (first | (with_reducible first | exact HB.out | apply below_alloc | apply pw_below_drewN | apply below_drew1) | exact HB.out)⟩⟩
  case round =>
    clear H'
    try clear p2
    obtain ⟨x8_1, x9_1, x10_1, rfl, rfl, HA, HK1, HO_8, HB⟩ := hrel
    cases gk with
    | zero => exact absurd HA.out (by simp [abacistref08_Dft.l0])
    | succ k1 =>
      have H := HA.out
      clear HA
      simp only [abacistref08_Dft.l0] at H
      by_cases c5 : x10_1 < (l0.length : Int)
      · rw [if_pos c5] at H
        have c5b0 : decide (x10_1 < (l0.length : Int)) = true := decide_eq_true c5
        clear c5
        have H' := Aside0.mk H
        clear H
        go_wp2
        go_loopg [11, 12, 13] k1 (fun kq v11 v12 v13 w' => ∃ (x11_2 : Int) (x12_2 : Int) (x13_2 : Int), v11 = .int .u64 x11_2 ∧ v12 = .int .u64 x12_2 ∧ v13 = .int .i64 x13_2 ∧ Aside0 (abacistref08_Dft.l1 kq l0 t225 x8_1 x9_1 x10_1 x11_2 x12_2 x13_2 = some r) ∧ Aside0 (kq ≤ k1) ∧ Aside0 (Kd.R (Kd.int .u64) 45 w' w.heap.size (fun _ => True) u8 x8_1) ∧ Aside0 (Below w.heap.size w w'))
        case atStart => exact ⟨(0), (1), (0), (by first | rfl | (simp; done) | (simp [*]; done)), (by first | rfl | (simp; done) | (simp [*]; done)), (by first | rfl | (simp; done) | (simp [*]; done)), H', ⟨Nat.le_refl _⟩, ⟨by (with_reducible repeat (first | apply Kd.R_alloc | apply Kd.R_drewN | apply Kd.R_drew)); exact HO_8.out⟩, ⟨by repeat (first | (with_reducible first | exact HB.out | apply below_alloc | apply pw_below_drewN | apply below_drew1) | exact HB.out)⟩⟩
        case round =>
          clear H'
          try clear p2
          try clear c5
          try clear c5b0
          try clear p2
          obtain ⟨x11_2, x12_2, x13_2, rfl, rfl, rfl, HA, HK2, HO_8, HB⟩ := hrel
          cases gk with
          | zero => exact absurd HA.out (by simp [abacistref08_Dft.l1])
          | succ k2 =>
            have H := HA.out
            clear HA
            simp only [abacistref08_Dft.l1] at H
            by_cases c6 : x13_2 < (l0.length : Int)
            · rw [if_pos c6] at H
              have c6b0 : decide (x13_2 < (l0.length : Int)) = true := decide_eq_true c6
              clear c6
              by_cases c7 : 0 ≤ x13_2
              · rw [if_pos c7] at H
                have c7b0 : decide (0 ≤ x13_2) = true := decide_eq_true c7
                clear c7
                replace H := Option.bind_eq_some_iff.mp H
                obtain ⟨t227, A80, H⟩ := H
                replace H : ((abacistref02_Add.f x11_2 t227).bind fun t228 => ((abacistref02_Mul.f k2 x12_2 x9_1).bind fun t229 => (abacistref08_Dft.l1 k2 l0 t225 x8_1 x9_1 x10_1 t228 t229 (wrap64 (x13_2 + 1))))) = some r := H
                have A8 := Aside0.mk A80
                clear A80
                replace H := Option.bind_eq_some_iff.mp H
                obtain ⟨t228, A90, H⟩ := H
                replace H : ((abacistref02_Mul.f k2 x12_2 x9_1).bind fun t229 => (abacistref08_Dft.l1 k2 l0 t225 x8_1 x9_1 x10_1 t228 t229 (wrap64 (x13_2 + 1)))) = some r := H
                have A9 := Aside0.mk A90
                clear A90
                replace H := Option.bind_eq_some_iff.mp H
                obtain ⟨t229, A100, H⟩ := H
                replace H : (abacistref08_Dft.l1 k2 l0 t225 x8_1 x9_1 x10_1 t228 t229 (wrap64 (x13_2 + 1))) = some r := H
                have A10 := Aside0.mk A100
                clear A100
                have H' := Aside0.mk H
                clear H
                have p226 : 0 ≤ (x13_2 : Int) := of_decide_eq_true (by first | (with_reducible assumption) | assumption)
                have q226 : x13_2 < (l0.length : Int) := of_decide_eq_true (by first | (with_reducible assumption) | assumption)
                obtain ⟨ad226, e226, hx226_0⟩ := Kd.at_int HR0.out x13_2 p226 q226
                cases e226
                replace hx226_0 := (HB.out.cell (World.block_lt_of_cell? w _ hx226_0)).trans hx226_0
                replace p226 := eq_true p226
                replace q226 := eq_true q226
                go_wp2_with (first | ((with_reducible refine gate_callee (f := 28) rfl ?_); refine goesL_ (some 35) rfl rfl Tryd.func28 (by kernel_rfl) rfl #[.int .u64 (rd l0 x13_2), .int .u64 x12_2] rfl (by (try simp only [List.map_toArray, List.map_cons, List.map_nil]); first | done | rfl | (simp only [List.length_drop, List.length_take]; rfl)) ?_; (with_reducible refine (abacistref02_Mul.calls k2 (rd l0 x13_2) x12_2 t227 _ A8.out).mono ?_); rintro e w' ⟨rfl, ⟨nd, rfl⟩⟩; refine ⟨_, rfl, ?_⟩) | ((with_reducible refine gate_callee (f := 66) rfl ?_); refine goesL_ (some 36) rfl rfl Tryd.func66 (by kernel_rfl) rfl #[.int .u64 x11_2, .int .u64 t227] rfl (by (try simp only [List.map_toArray, List.map_cons, List.map_nil]); first | done | rfl | (simp only [List.length_drop, List.length_take]; rfl)) ?_; (with_reducible refine (abacistref02_Add.calls x11_2 t227 t228 _ A9.out).mono ?_); rintro e w' ⟨rfl, ⟨nd, rfl⟩⟩; refine ⟨_, rfl, ?_⟩) | ((with_reducible refine gate_callee (f := 28) rfl ?_); refine goesL_ (some 39) rfl rfl Tryd.func28 (by kernel_rfl) rfl #[.int .u64 x12_2, .int .u64 x9_1] rfl (by (try simp only [List.map_toArray, List.map_cons, List.map_nil]); first | done | rfl | (simp only [List.length_drop, List.length_take]; rfl)) ?_; (with_reducible refine (abacistref02_Mul.calls k2 x12_2 x9_1 t229 _ A10.out).mono ?_); rintro e w' ⟨rfl, ⟨nd, rfl⟩⟩; refine ⟨_, rfl, ?_⟩))
                go_roundg k2
                case measure => have := HK1.out; have := HK2.out; omega
                case rel => exact ⟨(t228), (t229), (wrap64 (x13_2 + 1)), (by first | rfl | (simp; done) | (simp [*]; done)), (by first | rfl | (simp; done) | (simp [*]; done)), (by first | rfl | (simp; done) | (simp [*]; done)), H', ⟨by have := HK1.out; have := HK2.out; omega⟩, ⟨by (with_reducible repeat (first | apply Kd.R_alloc | apply Kd.R_drewN | apply Kd.R_drew)); exact HO_8.out⟩, ⟨by repeat (first | (with_reducible first | exact HB.out | apply below_alloc | apply pw_below_drewN | apply below_drew1) | exact HB.out)⟩⟩
              · rw [if_neg c7] at H
                exact absurd H (by simp)
            · rw [if_neg c6] at H
              have c6b0 : decide (x13_2 < (l0.length : Int)) = false := decide_eq_false c6
              clear c6
              by_cases c11 : x8_1.length < 17592186044416
              · rw [if_pos c11] at H
                have LMc11 := Aside0.mk c11
                clear c11
                obtain ⟨y230, hy230⟩ : ∃ y_ : List Int, y_ = (x8_1 ++ [x11_2]) := ⟨_, rfl⟩
                replace H : ((abacistref02_Mul.f k2 x9_1 t225).bind fun t233 => (abacistref08_Dft.l0 k2 l0 t225 y230 t233 (wrap64 (x10_1 + 1)))) = some r := by first | (rw [hy230]; with_reducible exact H) | (have H2_ := (Option.bind_some _ _).symm.trans H; rw [hy230]; with_reducible exact H2_) | (have H2_ := (Option.bind_some _ _).symm.trans H; with_reducible exact H2_) | with_reducible exact H | (rw [hy230]; exact H) | exact H
                have Ny230 := Aside0.mk hy230
                clear hy230
                replace H := Option.bind_eq_some_iff.mp H
                obtain ⟨t233, A120, H⟩ := H
                replace H : (abacistref08_Dft.l0 k2 l0 t225 y230 t233 (wrap64 (x10_1 + 1))) = some r := H
                have A12 := Aside0.mk A120
                clear A120
                have H' := Aside0.mk H
                clear H
                go_wp2_with (first | ((with_reducible refine gate_builtin (b := .append) (xs := #[.tmp 40, .tmp 42]) rfl ?_); at_builtin; refine Kd.R_append (Kd.int .u64) (w0 := w) w.heap.size rfl (.tmp 40) (.tmp 42) 24 45 (.int .u64 0) 8 rfl Tryd.underlying24 info45 rfl (by decide) (by omega) u8 x8_1 x11_2 [.int .u64 x11_2] (fun _ => True) (fun _ => False) rfl rfl ?aP (fun _ hk => hk.elim) ?aF ?aO ?aB ?aS ?aL ?_; (case aP => exact rfl); (case aB => exact (by repeat (first | (with_reducible first | exact HB.out | apply below_alloc | apply pw_below_drewN | apply below_drew1) | exact HB.out))); (case aF => exact (fun _ _ => trivial)); (case aO => exact (by (with_reducible repeat (first | apply Kd.R_alloc | apply Kd.R_drewN | apply Kd.R_drew)); exact HO_8.out)); (case aS => exact (below_size (by repeat (first | (with_reducible first | exact HB.out | apply below_alloc | apply pw_below_drewN | apply below_drew1) | exact HB.out)))); (case aL => have := LMc11.out; omega); intro v231 w13 ho hb hg hat; rw [← Ny230.out] at ho; have n0_ := Aside0.mk (hb); have n1_ := Aside0.mk (ho); clear HB; clear HO_8; have HB := n0_; have HO232 := n1_; clear n0_ n1_; clear ho hb hg hat) | ((with_reducible refine gate_callee (f := 28) rfl ?_); refine goesL_ (some 46) rfl rfl Tryd.func28 (by kernel_rfl) rfl #[.int .u64 x9_1, .int .u64 t225] rfl (by (try simp only [List.map_toArray, List.map_cons, List.map_nil]); first | done | rfl | (simp only [List.length_drop, List.length_take]; rfl)) ?_; (with_reducible refine (abacistref02_Mul.calls k2 x9_1 t225 t233 _ A12.out).mono ?_); rintro e w' ⟨rfl, ⟨nd, rfl⟩⟩; refine ⟨_, rfl, ?_⟩))
                go_roundg k2
                case measure => have := HK1.out; have := HK2.out; omega
                case rel => exact ⟨(y230), (t233), (wrap64 (x10_1 + 1)), (by first | rfl | (simp; done) | (simp [*]; done)), (by first | rfl | (simp; done) | (simp [*]; done)), H', ⟨by have := HK1.out; have := HK2.out; omega⟩, ⟨by (with_reducible repeat (first | apply Kd.R_alloc | apply Kd.R_drewN | apply Kd.R_drew)); exact HO232.out⟩, ⟨by repeat (first | (with_reducible first | exact HB.out | apply below_alloc | apply pw_below_drewN | apply below_drew1) | exact HB.out)⟩⟩
              · rw [if_neg c11] at H
                exact absurd H (by simp)
      · rw [if_neg c5] at H
        have c5b0 : decide (x10_1 < (l0.length : Int)) = false := decide_eq_false c5
        clear c5
        obtain rfl := Option.some.inj H
        go_wp2
        go_ret
        exact ⟨_, by first | rfl | (simp [errW_none, errW_some] <;> rfl) | (simp [*, errW_none, errW_some] <;> rfl), by (with_reducible repeat (first | apply Kd.R_alloc | apply Kd.R_drewN | apply Kd.R_drew)); exact HO_8.out, by repeat (first | (with_reducible first | exact HB.out | apply below_alloc | apply pw_below_drewN | apply below_drew1) | exact HB.out)⟩
def abacistref08_Transform.f (k : Nat) (l0 : List Int) (a1 : Int) (a2 : Int) : Option (List Int) := (abacistref08_Dft.f k l0 a1 a2).bind fun t234 => (if a2 = 1 then ((abacistref08_Share.f k a1).bind fun t237 => ((abacistref08_Scale.f k t234 t237).bind fun t238 => (some t238))) else (some t234))
set_option maxHeartbeats 8000000 in
set_option maxRecDepth 100000 in
theorem abacistref08_Transform.calls (k : Nat) (A0 : Option Addr) (c0 : Nat) (l0 : List Int) (a1 : Int) (a2 : Int) (r : List Int) (w : World) (hr0 : Kd.C (Kd.int .u64) w A0 l0.length l0) (hc0 : l0.length ≤ c0) (h : abacistref08_Transform.f k l0 a1 a2 = some r) :
    Calls Tryd.prog 46 #[.slice A0 l0.length c0, .int .i64 a1, .int .i64 a2] w fun e w' => ∃ v0_ : Value, e = .returned (v0_) ∧ Kd.R (Kd.int .u64) 45 w' w.heap.size (fun _ => True) v0_ r ∧ Below w.heap.size w w' := by
  have HR0 := Aside0.mk hr0
  have HC0 := Aside0.mk hc0
  clear hr0 hc0
  have HB := Aside0.mk (Below.refl w.heap.size w)
  have H : ((abacistref08_Dft.f k l0 a1 a2).bind fun t234 => (if a2 = 1 then ((abacistref08_Share.f k a1).bind fun t237 => ((abacistref08_Scale.f k t234 t237).bind fun t238 => (some t238))) else (some t234))) = some r := h
  clear h
  replace H := Option.bind_eq_some_iff.mp H
  obtain ⟨t234, A40, H⟩ := H
  replace H : (if a2 = 1 then ((abacistref08_Share.f k a1).bind fun t237 => ((abacistref08_Scale.f k t234 t237).bind fun t238 => (some t238))) else (some t234)) = some r := H
  have A4 := Aside0.mk A40
  clear A40
  by_cases c5 : a2 = 1
  · rw [if_pos c5] at H
    have c5b0 : (a2 == 1) = true := beq_iff_eq.mpr c5
    have c5b1 : (a2 != 1) = false := bne_eq_false_iff_eq.mpr c5
    clear c5
    replace H := Option.bind_eq_some_iff.mp H
    obtain ⟨t237, A60, H⟩ := H
    replace H : ((abacistref08_Scale.f k t234 t237).bind fun t238 => (some t238)) = some r := H
    have A6 := Aside0.mk A60
    clear A60
    replace H := Option.bind_eq_some_iff.mp H
    obtain ⟨t238, A70, H⟩ := H
    replace H : (some t238) = some r := H
    have A7 := Aside0.mk A70
    clear A70
    obtain rfl := Option.some.inj H
    go_enter Tryd.func46, Tryd.ntmps46
    go_wp2_with (first | ((with_reducible refine gate_callee (f := 90) rfl ?_); refine goesL_ (some 11) rfl rfl Tryd.func90 (by kernel_rfl) rfl #[.slice A0 l0.length c0, .int .i64 a1, .int .i64 a2] rfl (by (try simp only [List.map_toArray, List.map_cons, List.map_nil]); first | done | rfl | (simp only [List.length_drop, List.length_take]; rfl)) ?_; (with_reducible refine (abacistref08_Dft.calls k _ _ l0 a1 a2 t234 _ ?side1 ?side2 A4.out).mono ?_); (case side1 => repeat (first | exact HR0.out | (with_reducible refine Kd.C_alloc ?_ _) | (with_reducible refine Kd.C_drewN ?_ _) | (with_reducible refine Kd.C_drew ?_))); (case side2 => exact HC0.out); rintro e w8 ⟨v235, rfl, ho0, hb⟩; refine ⟨_, rfl, ?_⟩; have n0_ := Aside0.mk (Kd.R_lower ho0 (below_size (by repeat (first | (with_reducible first | exact HB.out | apply below_alloc | apply pw_below_drewN | apply below_drew1) | exact HB.out)))); have n1_ := Aside0.mk (below_step (by repeat (first | (with_reducible first | exact HB.out | apply below_alloc | apply pw_below_drewN | apply below_drew1) | exact HB.out)) hb); clear HB; have HO236 := n0_; have HB := n1_; clear n0_ n1_; (try clear hb); (try clear hb2); (try clear hk); (try clear hi); (try clear ho0)) | ((with_reducible refine gate_callee (f := 74) rfl ?_); refine goesL_ (some 16) rfl rfl Tryd.func74 (by kernel_rfl) rfl #[.int .i64 a1] rfl (by (try simp only [List.map_toArray, List.map_cons, List.map_nil]); first | done | rfl | (simp only [List.length_drop, List.length_take]; rfl)) ?_; (with_reducible refine (abacistref08_Share.calls k a1 t237 _ A6.out).mono ?_); rintro e w' ⟨rfl, ⟨nd, rfl⟩⟩; refine ⟨_, rfl, ?_⟩; obtain ⟨Ao9, co9, eo9⟩ := Kd.R_slice HO236.out; subst eo9) | ((with_reducible refine gate_callee (f := 54) rfl ?_); refine goesL_ (some 17) rfl rfl Tryd.func54 (by kernel_rfl) rfl #[.slice Ao9 t234.length co9, .int .u64 t237] rfl (by (try simp only [List.map_toArray, List.map_cons, List.map_nil]); first | done | rfl | (simp only [List.length_drop, List.length_take]; rfl)) ?_; (with_reducible refine (abacistref08_Scale.calls k _ _ t234 t237 t238 _ ?side1 ?side2 A7.out).mono ?_); (case side1 => repeat (first | exact (Kd.R_reads' HO236.out).2.2 | (with_reducible refine Kd.C_alloc ?_ _) | (with_reducible refine Kd.C_drewN ?_ _) | (with_reducible refine Kd.C_drew ?_))); (case side2 => exact (Kd.R_reads' HO236.out).2.1); rintro e w10 ⟨v239, rfl, ho0, hb⟩; refine ⟨_, rfl, ?_⟩; have n0_ := Aside0.mk (Kd.R_elder' (by (with_reducible repeat (first | apply Kd.R_alloc | apply Kd.R_drewN | apply Kd.R_drew)); exact HO236.out) (Kd.R_base ho0) hb); have n1_ := Aside0.mk (Kd.R_lower (Kd.R_new' ho0 (Kd.R_lt (by (with_reducible repeat (first | apply Kd.R_alloc | apply Kd.R_drewN | apply Kd.R_drew)); exact HO236.out))) (below_size (by repeat (first | (with_reducible first | exact HB.out | apply below_alloc | apply pw_below_drewN | apply below_drew1) | exact HB.out)))); have n2_ := Aside0.mk (below_step (by repeat (first | (with_reducible first | exact HB.out | apply below_alloc | apply pw_below_drewN | apply below_drew1) | exact HB.out)) hb); clear HO236; clear HB; have HO236 := n0_; have HO240 := n1_; have HB := n2_; clear n0_ n1_ n2_; (try clear hb); (try clear hb2); (try clear hk); (try clear hi); (try clear ho0)))
    go_ret
    exact ⟨_, by first | rfl | (simp [errW_none, errW_some] <;> rfl) | (simp [*, errW_none, errW_some] <;> rfl), by (with_reducible repeat (first | apply Kd.R_alloc | apply Kd.R_drewN | apply Kd.R_drew)); exact Kd.R_mono HO240.out (fun _ hk => trivial), by repeat (first | (with_reducible first | exact HB.out | apply below_alloc | apply pw_below_drewN | apply below_drew1) | exact HB.out)⟩
  · rw [if_neg c5] at H
    have c5b0 : (a2 == 1) = false := beq_eq_false_iff_ne.mpr c5
    have c5b1 : (a2 != 1) = true := bne_iff_ne.mpr c5
    obtain rfl := Option.some.inj H
    go_enter Tryd.func46, Tryd.ntmps46
    go_wp2_with (first | ((with_reducible refine gate_callee (f := 90) rfl ?_); refine goesL_ (some 11) rfl rfl Tryd.func90 (by kernel_rfl) rfl #[.slice A0 l0.length c0, .int .i64 a1, .int .i64 a2] rfl (by (try simp only [List.map_toArray, List.map_cons, List.map_nil]); first | done | rfl | (simp only [List.length_drop, List.length_take]; rfl)) ?_; (with_reducible refine (abacistref08_Dft.calls k _ _ l0 a1 a2 t234 _ ?side1 ?side2 A4.out).mono ?_); (case side1 => repeat (first | exact HR0.out | (with_reducible refine Kd.C_alloc ?_ _) | (with_reducible refine Kd.C_drewN ?_ _) | (with_reducible refine Kd.C_drew ?_))); (case side2 => exact HC0.out); rintro e w11 ⟨v235, rfl, ho0, hb⟩; refine ⟨_, rfl, ?_⟩; have n0_ := Aside0.mk (Kd.R_lower ho0 (below_size (by repeat (first | (with_reducible first | exact HB.out | apply below_alloc | apply pw_below_drewN | apply below_drew1) | exact HB.out)))); have n1_ := Aside0.mk (below_step (by repeat (first | (with_reducible first | exact HB.out | apply below_alloc | apply pw_below_drewN | apply below_drew1) | exact HB.out)) hb); clear HB; have HO236 := n0_; have HB := n1_; clear n0_ n1_; (try clear hb); (try clear hb2); (try clear hk); (try clear hi); (try clear ho0)))
    go_ret
    exact ⟨_, by first | rfl | (simp [errW_none, errW_some] <;> rfl) | (simp [*, errW_none, errW_some] <;> rfl), by (with_reducible repeat (first | apply Kd.R_alloc | apply Kd.R_drewN | apply Kd.R_drew)); exact HO236.out, by repeat (first | (with_reducible first | exact HB.out | apply below_alloc | apply pw_below_drewN | apply below_drew1) | exact HB.out)⟩
def abacistref06_Good.f (k : Nat) (a0_0 : Int) (a0_1 : Int) : Option (Bool) := (abacistref03_Fits.f k a0_0).bind fun t256 => ((abacistref03_Fits.f k a0_1).bind fun t257 => (if t256 ≥ 0 then (if t257 ≥ 0 then (some (decide ((wrap64 (t256 + t257)) ≤ 32))) else (some false)) else (some false)))
set_option maxHeartbeats 8000000 in
set_option maxRecDepth 100000 in
theorem abacistref06_Good.calls (k : Nat) (a0_0 : Int) (a0_1 : Int) (r : Bool) (w : World) (h : abacistref06_Good.f k a0_0 a0_1 = some r) :
    Calls Tryd.prog 17 #[.agg #[.int .i64 a0_0, .int .i64 a0_1]] w fun e w' => e = .returned (.bool r) ∧ Below w.heap.size w w' := by
  have hu23 := Tryd.underlying23
  have HB := Aside0.mk (Below.refl w.heap.size w)
  have H : ((abacistref03_Fits.f k a0_0).bind fun t256 => ((abacistref03_Fits.f k a0_1).bind fun t257 => (if t256 ≥ 0 then (if t257 ≥ 0 then (some (decide ((wrap64 (t256 + t257)) ≤ 32))) else (some false)) else (some false)))) = some r := h
  clear h
  replace H := Option.bind_eq_some_iff.mp H
  obtain ⟨t256, A20, H⟩ := H
  replace H : ((abacistref03_Fits.f k a0_1).bind fun t257 => (if t256 ≥ 0 then (if t257 ≥ 0 then (some (decide ((wrap64 (t256 + t257)) ≤ 32))) else (some false)) else (some false))) = some r := H
  have A2 := Aside0.mk A20
  clear A20
  replace H := Option.bind_eq_some_iff.mp H
  obtain ⟨t257, A30, H⟩ := H
  replace H : (if t256 ≥ 0 then (if t257 ≥ 0 then (some (decide ((wrap64 (t256 + t257)) ≤ 32))) else (some false)) else (some false)) = some r := H
  have A3 := Aside0.mk A30
  clear A30
  by_cases c4 : t256 ≥ 0
  · rw [if_pos c4] at H
    have c4b0 : decide (0 ≤ t256) = true := decide_eq_true c4
    clear c4
    by_cases c5 : t257 ≥ 0
    · rw [if_pos c5] at H
      have c5b0 : decide (0 ≤ t257) = true := decide_eq_true c5
      clear c5
      obtain rfl := Option.some.inj H
      go_enter Tryd.func17, Tryd.ntmps17
      go_wp2_with (first | ((with_reducible refine gate_dst (N := 1) rfl ?_); refine box_event ?hg (N := 1) ?hd (cs := #[.int .i64 a0_0, .int .i64 a0_1]) (t := 23) ?hr ?_; (case hd => rfl); (case hg => rfl); (case hr => first | (go_simp; done) | (go_simp; rfl)); intro gb255 hg w6 hbox hb; have n0_ := Aside0.mk (below_step (by repeat (first | (with_reducible first | exact HB.out | apply below_alloc | apply pw_below_drewN | apply below_drew1) | exact HB.out)) hb); have n1_ := Aside0.mk (hbox); have n2_ := Aside0.mk ((by rw [hg]; exact (below_size (by repeat (first | (with_reducible first | exact HB.out | apply below_alloc | apply pw_below_drewN | apply below_drew1) | exact HB.out))) : w.heap.size ≤ gb255)); have n3_ := Aside0.mk ((by rw [hg]; exact (below_size (by repeat (first | (with_reducible first | exact HB.out | apply below_alloc | apply pw_below_drewN | apply below_drew1) | exact HB.out))) : w.heap.size ≤ gb255)); clear HB; have HB := n0_; have BK255 := n1_; have GW255 := n2_; have GE255 := n3_; clear n0_ n1_ n2_ n3_; clear hb hbox hg; have hcz7_0 : w6.cell? ⟨gb255, 0, none⟩ = some (.int .i64 a0_0) := (blk_cell BK255.out 0).trans rfl; have hcz7_1 : w6.cell? ⟨gb255, 1, none⟩ = some (.int .i64 a0_1) := (blk_cell BK255.out 1).trans rfl; have hfz7_0 := blk_frozen BK255.out 0; have hfz7_1 := blk_frozen BK255.out 1) | ((with_reducible refine gate_callee (f := 47) rfl ?_); refine goesL_ (some 7) rfl rfl Tryd.func47 (by kernel_rfl) rfl #[.int .i64 a0_0] rfl (by (try simp only [List.map_toArray, List.map_cons, List.map_nil]); first | done | rfl | (simp only [List.length_drop, List.length_take]; rfl)) ?_; (with_reducible refine (abacistref03_Fits.calls k a0_0 t256 _ A2.out).mono ?_); rintro e w' ⟨rfl, ⟨nd, rfl⟩⟩; refine ⟨_, rfl, ?_⟩) | ((with_reducible refine gate_callee (f := 47) rfl ?_); refine goesL_ (some 10) rfl rfl Tryd.func47 (by kernel_rfl) rfl #[.int .i64 a0_1] rfl (by (try simp only [List.map_toArray, List.map_cons, List.map_nil]); first | done | rfl | (simp only [List.length_drop, List.length_take]; rfl)) ?_; (with_reducible refine (abacistref03_Fits.calls k a0_1 t257 _ A3.out).mono ?_); rintro e w' ⟨rfl, ⟨nd, rfl⟩⟩; refine ⟨_, rfl, ?_⟩))
      go_ret
      exact ⟨by first | rfl | (simp [errW_none, errW_some] <;> rfl) | (simp [*, errW_none, errW_some] <;> rfl), by repeat (first | (with_reducible first | exact HB.out | apply below_alloc | apply pw_below_drewN | apply below_drew1 | refine below_set ?_ GE255.out) | exact HB.out)⟩
    · rw [if_neg c5] at H
      have c5b0 : decide (0 ≤ t257) = false := decide_eq_false c5
      clear c5
      obtain rfl := Option.some.inj H
      go_enter Tryd.func17, Tryd.ntmps17
      go_wp2_with (first | ((with_reducible refine gate_dst (N := 1) rfl ?_); refine box_event ?hg (N := 1) ?hd (cs := #[.int .i64 a0_0, .int .i64 a0_1]) (t := 23) ?hr ?_; (case hd => rfl); (case hg => rfl); (case hr => first | (go_simp; done) | (go_simp; rfl)); intro gb255 hg w8 hbox hb; have n0_ := Aside0.mk (below_step (by repeat (first | (with_reducible first | exact HB.out | apply below_alloc | apply pw_below_drewN | apply below_drew1) | exact HB.out)) hb); have n1_ := Aside0.mk (hbox); have n2_ := Aside0.mk ((by rw [hg]; exact (below_size (by repeat (first | (with_reducible first | exact HB.out | apply below_alloc | apply pw_below_drewN | apply below_drew1) | exact HB.out))) : w.heap.size ≤ gb255)); have n3_ := Aside0.mk ((by rw [hg]; exact (below_size (by repeat (first | (with_reducible first | exact HB.out | apply below_alloc | apply pw_below_drewN | apply below_drew1) | exact HB.out))) : w.heap.size ≤ gb255)); clear HB; have HB := n0_; have BK255 := n1_; have GW255 := n2_; have GE255 := n3_; clear n0_ n1_ n2_ n3_; clear hb hbox hg; have hcz9_0 : w8.cell? ⟨gb255, 0, none⟩ = some (.int .i64 a0_0) := (blk_cell BK255.out 0).trans rfl; have hcz9_1 : w8.cell? ⟨gb255, 1, none⟩ = some (.int .i64 a0_1) := (blk_cell BK255.out 1).trans rfl; have hfz9_0 := blk_frozen BK255.out 0; have hfz9_1 := blk_frozen BK255.out 1) | ((with_reducible refine gate_callee (f := 47) rfl ?_); refine goesL_ (some 7) rfl rfl Tryd.func47 (by kernel_rfl) rfl #[.int .i64 a0_0] rfl (by (try simp only [List.map_toArray, List.map_cons, List.map_nil]); first | done | rfl | (simp only [List.length_drop, List.length_take]; rfl)) ?_; (with_reducible refine (abacistref03_Fits.calls k a0_0 t256 _ A2.out).mono ?_); rintro e w' ⟨rfl, ⟨nd, rfl⟩⟩; refine ⟨_, rfl, ?_⟩) | ((with_reducible refine gate_callee (f := 47) rfl ?_); refine goesL_ (some 10) rfl rfl Tryd.func47 (by kernel_rfl) rfl #[.int .i64 a0_1] rfl (by (try simp only [List.map_toArray, List.map_cons, List.map_nil]); first | done | rfl | (simp only [List.length_drop, List.length_take]; rfl)) ?_; (with_reducible refine (abacistref03_Fits.calls k a0_1 t257 _ A3.out).mono ?_); rintro e w' ⟨rfl, ⟨nd, rfl⟩⟩; refine ⟨_, rfl, ?_⟩))
      go_ret
      exact ⟨by first | rfl | (simp [errW_none, errW_some] <;> rfl) | (simp [*, errW_none, errW_some] <;> rfl), by repeat (first | (with_reducible first | exact HB.out | apply below_alloc | apply pw_below_drewN | apply below_drew1 | refine below_set ?_ GE255.out) | exact HB.out)⟩
  · rw [if_neg c4] at H
    have c4b0 : decide (0 ≤ t256) = false := decide_eq_false c4
    clear c4
    obtain rfl := Option.some.inj H
    go_enter Tryd.func17, Tryd.ntmps17
    go_wp2_with (first | ((with_reducible refine gate_dst (N := 1) rfl ?_); refine box_event ?hg (N := 1) ?hd (cs := #[.int .i64 a0_0, .int .i64 a0_1]) (t := 23) ?hr ?_; (case hd => rfl); (case hg => rfl); (case hr => first | (go_simp; done) | (go_simp; rfl)); intro gb255 hg w10 hbox hb; have n0_ := Aside0.mk (below_step (by repeat (first | (with_reducible first | exact HB.out | apply below_alloc | apply pw_below_drewN | apply below_drew1) | exact HB.out)) hb); have n1_ := Aside0.mk (hbox); have n2_ := Aside0.mk ((by rw [hg]; exact (below_size (by repeat (first | (with_reducible first | exact HB.out | apply below_alloc | apply pw_below_drewN | apply below_drew1) | exact HB.out))) : w.heap.size ≤ gb255)); have n3_ := Aside0.mk ((by rw [hg]; exact (below_size (by repeat (first | (with_reducible first | exact HB.out | apply below_alloc | apply pw_below_drewN | apply below_drew1) | exact HB.out))) : w.heap.size ≤ gb255)); clear HB; have HB := n0_; have BK255 := n1_; have GW255 := n2_; have GE255 := n3_; clear n0_ n1_ n2_ n3_; clear hb hbox hg; have hcz11_0 : w10.cell? ⟨gb255, 0, none⟩ = some (.int .i64 a0_0) := (blk_cell BK255.out 0).trans rfl; have hcz11_1 : w10.cell? ⟨gb255, 1, none⟩ = some (.int .i64 a0_1) := (blk_cell BK255.out 1).trans rfl; have hfz11_0 := blk_frozen BK255.out 0; have hfz11_1 := blk_frozen BK255.out 1) | ((with_reducible refine gate_callee (f := 47) rfl ?_); refine goesL_ (some 7) rfl rfl Tryd.func47 (by kernel_rfl) rfl #[.int .i64 a0_0] rfl (by (try simp only [List.map_toArray, List.map_cons, List.map_nil]); first | done | rfl | (simp only [List.length_drop, List.length_take]; rfl)) ?_; (with_reducible refine (abacistref03_Fits.calls k a0_0 t256 _ A2.out).mono ?_); rintro e w' ⟨rfl, ⟨nd, rfl⟩⟩; refine ⟨_, rfl, ?_⟩) | ((with_reducible refine gate_callee (f := 47) rfl ?_); refine goesL_ (some 10) rfl rfl Tryd.func47 (by kernel_rfl) rfl #[.int .i64 a0_1] rfl (by (try simp only [List.map_toArray, List.map_cons, List.map_nil]); first | done | rfl | (simp only [List.length_drop, List.length_take]; rfl)) ?_; (with_reducible refine (abacistref03_Fits.calls k a0_1 t257 _ A3.out).mono ?_); rintro e w' ⟨rfl, ⟨nd, rfl⟩⟩; refine ⟨_, rfl, ?_⟩))
    go_ret
    exact ⟨by first | rfl | (simp [errW_none, errW_some] <;> rfl) | (simp [*, errW_none, errW_some] <;> rfl), by repeat (first | (with_reducible first | exact HB.out | apply below_alloc | apply pw_below_drewN | apply below_drew1 | refine below_set ?_ GE255.out) | exact HB.out)⟩
end Go.Proofs.YtpnkcjnemoompaaDoor.PFft
end
section
namespace Go.Proofs.YtpnkcjnemoompaaDoor.PFft
open Go.RowKit Go.Proofs.YtpnkcjnemoompaaDoor.Ext Go.Proofs.YtpnkcjnemoompaaDoor.PPlan Go.Proofs.YtpnkcjnemoompaaDoorW.PrintWords Go.Proofs.YtpnkcjnemoompaaDoorW.PrintLast Go.Proofs.YtpnkcjnemoompaaDoorW.PrintMore
attribute [local go_sem] max2_int min2_int max_two min_two max_three min_three max_four min_four   -- for this text's walks alone
set_option linter.unusedVariables false
set_option linter.unusedSimpArgs false
def gold_Add.f (a0 : Int) (a1 : Int) : Option (Int) := (gold_Of.f a0).bind fun t316 => ((gold_Of.f a1).bind fun t317 => ((wide_Add.f 0 t316 0 t317).bind fun bt318 => ((gold_Reduce.f bt318.1 bt318.2.1).bind fun t322 => (some t322))))
set_option maxHeartbeats 8000000 in
set_option maxRecDepth 100000 in
theorem gold_Add.calls (a0 : Int) (a1 : Int) (r : Int) (w : World) (h : gold_Add.f a0 a1 = some r) :
    Calls Tryd.prog 107 #[.int .u64 a0, .int .u64 a1] w fun e w' => e = .returned (.int .u64 r) ∧ Below w.heap.size w w' := by
  have hu132 := Tryd.underlying132
  have HB := Aside0.mk (Below.refl w.heap.size w)
  have H : ((gold_Of.f a0).bind fun t316 => ((gold_Of.f a1).bind fun t317 => ((wide_Add.f 0 t316 0 t317).bind fun bt318 => ((gold_Reduce.f bt318.1 bt318.2.1).bind fun t322 => (some t322))))) = some r := h
  clear h
  replace H := Option.bind_eq_some_iff.mp H
  obtain ⟨t316, A30, H⟩ := H
  replace H : ((gold_Of.f a1).bind fun t317 => ((wide_Add.f 0 t316 0 t317).bind fun bt318 => ((gold_Reduce.f bt318.1 bt318.2.1).bind fun t322 => (some t322)))) = some r := H
  have A3 := Aside0.mk A30
  clear A30
  replace H := Option.bind_eq_some_iff.mp H
  obtain ⟨t317, A40, H⟩ := H
  replace H : ((wide_Add.f 0 t316 0 t317).bind fun bt318 => ((gold_Reduce.f bt318.1 bt318.2.1).bind fun t322 => (some t322))) = some r := H
  have A4 := Aside0.mk A40
  clear A40
  replace H := Option.bind_eq_some_iff.mp H
  obtain ⟨⟨t318, t319, t320⟩, A50, H⟩ := H
  replace H : ((gold_Reduce.f t318 t319).bind fun t322 => (some t322)) = some r := H
  have A5 := Aside0.mk A50
  clear A50
  replace H := Option.bind_eq_some_iff.mp H
  obtain ⟨t322, A60, H⟩ := H
  replace H : (some t322) = some r := H
  have A6 := Aside0.mk A60
  clear A60
  obtain rfl := Option.some.inj H
  go_enter Tryd.func107, Tryd.ntmps107
  go_wp2_with (first | ((with_reducible refine gate_callee (f := 130) rfl ?_); refine goesL_ (some 9) rfl rfl Tryd.func130 (by kernel_rfl) rfl #[.int .u64 a0] rfl (by (try simp only [List.map_toArray, List.map_cons, List.map_nil]); first | done | rfl | (simp only [List.length_drop, List.length_take]; rfl)) ?_; (with_reducible refine (gold_Of.calls a0 t316 _ A3.out).mono ?_); rintro e w' ⟨rfl, ⟨nd, rfl⟩⟩; refine ⟨_, rfl, ?_⟩) | ((with_reducible refine gate_callee (f := 130) rfl ?_); refine goesL_ (some 12) rfl rfl Tryd.func130 (by kernel_rfl) rfl #[.int .u64 a1] rfl (by (try simp only [List.map_toArray, List.map_cons, List.map_nil]); first | done | rfl | (simp only [List.length_drop, List.length_take]; rfl)) ?_; (with_reducible refine (gold_Of.calls a1 t317 _ A4.out).mono ?_); rintro e w' ⟨rfl, ⟨nd, rfl⟩⟩; refine ⟨_, rfl, ?_⟩) | ((with_reducible refine gate_callee (f := 129) rfl ?_); refine goesL_ (some 14) rfl rfl Tryd.func129 (by kernel_rfl) rfl #[.agg #[.int .u64 0, .int .u64 t316], .agg #[.int .u64 0, .int .u64 t317]] rfl (by (try simp only [List.map_toArray, List.map_cons, List.map_nil]); first | done | rfl | (simp only [List.length_drop, List.length_take]; rfl)) ?_; (with_reducible refine (wide_Add.calls 0 t316 0 t317 t318 t319 t320 _ A5.out).mono ?_); rintro e w7 ⟨rfl, hb⟩; refine ⟨_, rfl, ?_⟩; have n0_ := Aside0.mk (below_step (by repeat (first | (with_reducible first | exact HB.out | apply below_alloc | apply pw_below_drewN | apply below_drew1) | exact HB.out)) hb); clear HB; have HB := n0_; clear n0_; (try clear hb); (try clear hb2); (try clear hk); (try clear hi)) | ((with_reducible refine gate_dst (N := 5) rfl ?_); refine box_event ?hg (N := 5) ?hd (cs := #[.int .u64 0, .int .u64 0]) (t := 132) ?hr ?_; (case hd => rfl); (case hg => rfl); (case hr => first | (go_simp; done) | (go_simp; rfl)); intro gb321 hg w8 hbox hb; have n0_ := Aside0.mk (below_step (by repeat (first | (with_reducible first | exact HB.out | apply below_alloc | apply pw_below_drewN | apply below_drew1) | exact HB.out)) hb); have n1_ := Aside0.mk (hbox); have n2_ := Aside0.mk ((by rw [hg]; exact (below_size (by repeat (first | (with_reducible first | exact HB.out | apply below_alloc | apply pw_below_drewN | apply below_drew1) | exact HB.out))) : w.heap.size ≤ gb321)); have n3_ := Aside0.mk ((by rw [hg]; exact (below_size (by repeat (first | (with_reducible first | exact HB.out | apply below_alloc | apply pw_below_drewN | apply below_drew1) | exact HB.out))) : w.heap.size ≤ gb321)); clear HB; have HB := n0_; have BK321 := n1_; have GW321 := n2_; have GE321 := n3_; clear n0_ n1_ n2_ n3_; clear hb hbox hg; have hcz9_0 : w8.cell? ⟨gb321, 0, none⟩ = some (.int .u64 0) := (blk_cell BK321.out 0).trans rfl; have hcz9_1 : w8.cell? ⟨gb321, 1, none⟩ = some (.int .u64 0) := (blk_cell BK321.out 1).trans rfl; have hfz9_0 := blk_frozen BK321.out 0; have hfz9_1 := blk_frozen BK321.out 1) | ((with_reducible refine gate_callee (f := 110) rfl ?_); refine goesL_ (some 18) rfl rfl Tryd.func110 (by kernel_rfl) rfl #[.agg #[.int .u64 t318, .int .u64 t319]] rfl (by (try simp only [List.map_toArray, List.map_cons, List.map_nil]); first | done | rfl | (simp only [List.length_drop, List.length_take]; rfl)) ?_; (with_reducible refine (gold_Reduce.calls t318 t319 t322 _ A6.out).mono ?_); rintro e w10 ⟨rfl, hb⟩; refine ⟨_, rfl, ?_⟩; have n0_ := Aside0.mk (blk_below (g := gb321) (o := .cells #[.int .u64 t318, .int .u64 t319] 132 (0, 0)) (by (with_reducible repeat (first | refine blk_drewN ?_ _ | refine blk_drew ?_ | refine blk_alloc ?_ _)); refine blk_put (cs := #[.int .u64 t318, .int .u64 0]) ?_ 1 _ rfl; (with_reducible repeat (first | refine blk_drewN ?_ _ | refine blk_drew ?_ | refine blk_alloc ?_ _)); refine blk_put (cs := #[.int .u64 0, .int .u64 0]) ?_ 0 _ rfl; (with_reducible repeat (first | refine blk_drewN ?_ _ | refine blk_drew ?_ | refine blk_alloc ?_ _)); exact BK321.out) hb); have n1_ := Aside0.mk (below_step (by repeat (first | (with_reducible first | exact HB.out | apply below_alloc | apply pw_below_drewN | apply below_drew1 | refine below_set ?_ GE321.out) | exact HB.out)) hb); clear BK321; clear HB; have BK321 := n0_; have HB := n1_; clear n0_ n1_; (try clear hb); (try clear hb2); (try clear hk); (try clear hi)))
  go_ret
  exact ⟨by first | rfl | (simp [errW_none, errW_some] <;> rfl) | (simp [*, errW_none, errW_some] <;> rfl), by repeat (first | (with_reducible first | exact HB.out | apply below_alloc | apply pw_below_drewN | apply below_drew1 | refine below_set ?_ GE321.out) | exact HB.out)⟩
def gold_Sub.f (a0 : Int) (a1 : Int) : Option (Int) := (gold_Neg.f a1).bind fun t323 => ((gold_Add.f a0 t323).bind fun t324 => (some t324))
set_option maxHeartbeats 8000000 in
set_option maxRecDepth 100000 in
theorem gold_Sub.calls (a0 : Int) (a1 : Int) (r : Int) (w : World) (h : gold_Sub.f a0 a1 = some r) :
    Calls Tryd.prog 171 #[.int .u64 a0, .int .u64 a1] w fun e w' => e = .returned (.int .u64 r) ∧ Below w.heap.size w w' := by
  have HB := Aside0.mk (Below.refl w.heap.size w)
  have H : ((gold_Neg.f a1).bind fun t323 => ((gold_Add.f a0 t323).bind fun t324 => (some t324))) = some r := h
  clear h
  replace H := Option.bind_eq_some_iff.mp H
  obtain ⟨t323, A30, H⟩ := H
  replace H : ((gold_Add.f a0 t323).bind fun t324 => (some t324)) = some r := H
  have A3 := Aside0.mk A30
  clear A30
  replace H := Option.bind_eq_some_iff.mp H
  obtain ⟨t324, A40, H⟩ := H
  replace H : (some t324) = some r := H
  have A4 := Aside0.mk A40
  clear A40
  obtain rfl := Option.some.inj H
  go_enter Tryd.func171, Tryd.ntmps171
  go_wp2_with (first | ((with_reducible refine gate_callee (f := 163) rfl ?_); refine goesL_ (some 7) rfl rfl Tryd.func163 (by kernel_rfl) rfl #[.int .u64 a1] rfl (by (try simp only [List.map_toArray, List.map_cons, List.map_nil]); first | done | rfl | (simp only [List.length_drop, List.length_take]; rfl)) ?_; (with_reducible refine (gold_Neg.calls a1 t323 _ A3.out).mono ?_); rintro e w' ⟨rfl, ⟨nd, rfl⟩⟩; refine ⟨_, rfl, ?_⟩) | ((with_reducible refine gate_callee (f := 107) rfl ?_); refine goesL_ (some 8) rfl rfl Tryd.func107 (by kernel_rfl) rfl #[.int .u64 a0, .int .u64 t323] rfl (by (try simp only [List.map_toArray, List.map_cons, List.map_nil]); first | done | rfl | (simp only [List.length_drop, List.length_take]; rfl)) ?_; (with_reducible refine (gold_Add.calls a0 t323 t324 _ A4.out).mono ?_); rintro e w5 ⟨rfl, hb⟩; refine ⟨_, rfl, ?_⟩; have n0_ := Aside0.mk (below_step (by repeat (first | (with_reducible first | exact HB.out | apply below_alloc | apply pw_below_drewN | apply below_drew1) | exact HB.out)) hb); clear HB; have HB := n0_; clear n0_; (try clear hb); (try clear hb2); (try clear hk); (try clear hi)))
  go_ret
  exact ⟨by first | rfl | (simp [errW_none, errW_some] <;> rfl) | (simp [*, errW_none, errW_some] <;> rfl), by repeat (first | (with_reducible first | exact HB.out | apply below_alloc | apply pw_below_drewN | apply below_drew1) | exact HB.out)⟩
end Go.Proofs.YtpnkcjnemoompaaDoor.PFft
end
section
set_option linter.unusedVariables false
set_option linter.unusedSimpArgs false
namespace Go.Proofs.YtpnkcjnemoompaaDoor.Pure
open Go.RowKit Go.Proofs.YtpnkcjnemoompaaDoor Go.Proofs.YtpnkcjnemoompaaDoorW.PrintWords Go.Proofs.YtpnkcjnemoompaaDoorW.PrintLast Go.Proofs.YtpnkcjnemoompaaDoorW.PrintMore
theorem e64 : (2 : Nat) ^ 64 = 18446744073709551616 := by decide
theorem pow_split {i n : Nat} (h : i ≤ n) : 2 ^ n = 2 ^ i * 2 ^ (n - i) := by rw [← Nat.pow_add]; congr 1; omega
theorem pow_mono {i j : Nat} (h : i ≤ j) : 2 ^ i ≤ 2 ^ j := Nat.pow_le_pow_right (n := 2) (by omega) h
theorem wrap_u (n : Int) (h0 : 0 ≤ n) (h : n < 18446744073709551616) : IntKind.u64.wrap n = n := by rw [IntKind.wrap_u64]; omega
theorem wrap_i (n : Int) (h : -9223372036854775808 ≤ n) (h2 : n ≤ 9223372036854775807) : wrap64 n = n := by unfold wrap64; omega
theorem cast_pow (i : Nat) : ((2 : Int) ^ i) = ((2 ^ i : Nat) : Int) := by simp
theorem shr_u (x i : Nat) (h : i ≤ 64) : shr .u64 (x : Int) (i : Int) = ((x / 2 ^ i : Nat) : Int) := by
  unfold shr
  have e : min (i : Int).toNat IntKind.u64.bits = i := by simp [IntKind.bits]; omega
  rw [e, cast_pow, ← Int.natCast_ediv]
theorem shl_u (x i : Nat) (h : i ≤ 64) : shl .u64 (x : Int) (i : Int) = ((x * 2 ^ i % 18446744073709551616 : Nat) : Int) := by
  unfold shl
  have e : min (i : Int).toNat IntKind.u64.bits = i := by simp [IntKind.bits]; omega
  rw [e, cast_pow, ← Int.natCast_mul, IntKind.wrap_u64]
  omega
theorem Ev_if {α : Type} {c : Prop} [Decidable c] {f g : Nat → Option α} {r : α} (hc : c) (h : Ev f r) : Ev (fun n => if c then f n else g n) r := Ev.congr (fun _ => if_pos hc) h
theorem Ev_ifn {α : Type} {c : Prop} [Decidable c] {f g : Nat → Option α} {r : α} (hc : ¬ c) (h : Ev g r) : Ev (fun n => if c then f n else g n) r := Ev.congr (fun _ => if_neg hc) h
theorem Ev_eq {α : Type} {o : Option α} {r : α} (h : o = some r) : Ev (fun _ => o) r := by rw [h]; exact Ev.now _
theorem pow32 {k : Nat} (hk : k ≤ 32) : 2 ^ k ≤ 4294967296 := by
  have h := pow_mono hk
  have e : (2 : Nat) ^ 32 = 4294967296 := by decide
  omega
theorem shl_i (x k : Nat) (hk : k ≤ 63) (h : x * 2 ^ k < 9223372036854775808) : shl .i64 (x : Int) (k : Int) = ((x * 2 ^ k : Nat) : Int) := by
  unfold shl
  have e : min (k : Int).toNat IntKind.i64.bits = k := by simp [IntKind.bits]; omega
  rw [e, cast_pow, ← Int.natCast_mul, IntKind.wrap_i64]
  generalize x * 2 ^ k = y at *
  omega
theorem shl_one (k : Nat) (hk : k ≤ 32) : shl .i64 1 (IntKind.u64.wrap (k : Int)) = ((2 ^ k : Nat) : Int) := by
  have hp := pow32 hk
  rw [wrap_u _ (by omega) (by omega)]
  have h := shl_i 1 k (by omega) (by rw [Nat.one_mul]; generalize 2 ^ k = y at *; omega)
  rw [Nat.one_mul] at h
  exact h
theorem and_i (a b : Nat) (ha : a < 9223372036854775808) (hb : b < 9223372036854775808) : Go.bits .and .i64 (a : Int) (b : Int) = ((a &&& b : Nat) : Int) :=
  (bits_nat .i64 63 (by decide) (fun n h0 h1 => by rw [IntKind.wrap_i64]; omega) a b ha hb).1
end Go.Proofs.YtpnkcjnemoompaaDoor.Pure
end
section
namespace Go.Proofs.YtpnkcjnemoompaaDoor.Fft
set_option linter.unusedVariables false
set_option linter.unusedSimpArgs false
abbrev F := Fin 18446744069414584321
def pw (x : F) : Nat → F
  | 0 => 1
  | n + 1 => pw x n * x
theorem pw_zero (x : F) : pw x 0 = 1 := rfl
theorem pw_succ (x : F) (n : Nat) : pw x (n + 1) = pw x n * x := rfl
theorem pw_one (x : F) : pw x 1 = x := by rw [pw_succ, pw_zero]; grobner
theorem pw_two (x : F) : pw x 2 = x * x := by rw [pw_succ, pw_one]
theorem pw_add (x : F) (n m : Nat) : pw x (n + m) = pw x n * pw x m := by
  induction m with
  | zero => rw [Nat.add_zero, pw_zero]; grobner
  | succ m ih => rw [← Nat.add_assoc, pw_succ, pw_succ, ih]; grobner
theorem pw_mul (x : F) (n m : Nat) : pw x (n * m) = pw (pw x n) m := by
  induction m with
  | zero => rfl
  | succ m ih => rw [Nat.mul_succ, pw_add, pw_succ, ih]
theorem pw_mul' (x : F) (n m : Nat) : pw x (n * m) = pw (pw x m) n := by rw [Nat.mul_comm, pw_mul]
theorem one_pw (n : Nat) : pw 1 n = 1 := by
  induction n with
  | zero => rfl
  | succ n ih => rw [pw_succ, ih]; grobner
theorem mul_pw (x y : F) (n : Nat) : pw (x * y) n = pw x n * pw y n := by
  induction n with
  | zero => rw [pw_zero, pw_zero, pw_zero]; grobner
  | succ n ih => rw [pw_succ, pw_succ, pw_succ, ih]; grobner
theorem pw_comm (x : F) (n m : Nat) : pw (pw x n) m = pw (pw x m) n := by rw [← pw_mul, ← pw_mul']
def sm : Nat → (Nat → F) → F
  | 0, _ => 0
  | n + 1, f => sm n f + f n
theorem sm_zero (f : Nat → F) : sm 0 f = 0 := rfl
theorem sm_succ (n : Nat) (f : Nat → F) : sm (n + 1) f = sm n f + f n := rfl
theorem sm_congr {n : Nat} {f g : Nat → F} (h : ∀ i, i < n → f i = g i) : sm n f = sm n g := by
  induction n with
  | zero => rfl
  | succ n ih => rw [sm_succ, sm_succ, ih (fun i hi => h i (by omega)), h n (by omega)]
theorem sm_none (n : Nat) : sm n (fun _ => 0) = 0 := by
  induction n with
  | zero => rfl
  | succ n ih => rw [sm_succ, ih]; grobner
theorem sm_add (n : Nat) (f g : Nat → F) : sm n (fun i => f i + g i) = sm n f + sm n g := by
  induction n with
  | zero => rw [sm_zero, sm_zero, sm_zero]; grobner
  | succ n ih => rw [sm_succ, sm_succ, sm_succ, ih]; grobner
theorem sm_mulr (n : Nat) (f : Nat → F) (c : F) : sm n (fun i => f i * c) = sm n f * c := by
  induction n with
  | zero => rw [sm_zero, sm_zero]; grobner
  | succ n ih => rw [sm_succ, sm_succ, ih]; grobner
theorem sm_swap (n m : Nat) (f : Nat → Nat → F) : sm n (fun i => sm m (fun j => f i j)) = sm m (fun j => sm n (fun i => f i j)) := by
  induction n with
  | zero => rw [sm_zero]; exact (sm_none m).symm
  | succ n ih =>
    rw [sm_succ, ih, ← sm_add]
    exact sm_congr fun j _ => rfl
theorem sm_plus (a b : Nat) (f : Nat → F) : sm (a + b) f = sm a f + sm b (fun i => f (a + i)) := by
  induction b with
  | zero => rw [Nat.add_zero, sm_zero]; grobner
  | succ b ih => rw [← Nat.add_assoc, sm_succ, sm_succ, ih]; grobner
theorem sm_rows (n m : Nat) (f : Nat → F) : sm (n * m) f = sm n (fun i => sm m (fun j => f (i * m + j))) := by
  induction n with
  | zero => rw [Nat.zero_mul]; rfl
  | succ n ih => rw [Nat.succ_mul, sm_plus, sm_succ, ih]
theorem sm_one (f : Nat → F) : sm 1 f = f 0 := by rw [sm_succ, sm_zero]; grobner
theorem sm_two (f : Nat → F) : sm 2 f = f 0 + f 1 := by rw [sm_succ, sm_one]
theorem sm_four (f : Nat → F) : sm 4 f = f 0 + f 1 + f 2 + f 3 := by rw [sm_succ, sm_succ, sm_two]
def dft (n : Nat) (w : F) (f : Nat → F) (j : Nat) : F := sm n fun i => f i * pw w (i * j)
theorem dft_congr {n : Nat} {w : F} {f g : Nat → F} (h : ∀ i, i < n → f i = g i) (j : Nat) : dft n w f j = dft n w g j := sm_congr fun i hi => by rw [h i hi]
theorem dft_one (w : F) (f : Nat → F) (j : Nat) : dft 1 w f j = f 0 := by
  unfold dft; rw [sm_one, Nat.zero_mul, pw_zero]; grobner
theorem pw_red {w : F} {n : Nat} (h : pw w n = 1) (a b : Nat) : pw w (a * n + b) = pw w b := by
  rw [pw_add, pw_mul', h, one_pw]; grobner
def crs (a b c d u : F) (r : Nat) : F :=
  if r = 0 then (a + c) + (b + d) else if r = 1 then (a - c) + u * (b - d) else if r = 2 then (a + c) - (b + d) else (a - c) - u * (b - d)
theorem crs_is (a b c d u : F) (hu : u * u = -1) (r : Nat) (hr : r < 4) : crs a b c d u r = a + b * pw u r + c * pw u (2 * r) + d * pw u (3 * r) := by
  have h2 : pw u 2 = -1 := by rw [pw_two, hu]
  have h3 : pw u 3 = -u := by rw [pw_succ, h2]; grobner
  have h4 : pw u 4 = 1 := by rw [pw_succ, h3]; grobner
  have h6 : pw u 6 = -1 := by rw [show 6 = 4 + 2 by rfl, pw_add, h4, h2]; grobner
  have h9 : pw u 9 = u := by rw [show 9 = 4 + (4 + 1) by rfl, pw_add, pw_add, h4, pw_one]; grobner
  rcases (by omega : r = 0 ∨ r = 1 ∨ r = 2 ∨ r = 3) with rfl | rfl | rfl | rfl
  · simp only [crs, if_true, Nat.mul_zero, pw_zero]; grobner
  · simp only [crs, pw_one, Nat.mul_one, h2, h3]
    rw [if_neg (by decide), if_pos trivial]; grobner
  · show crs a b c d u 2 = a + b * pw u 2 + c * pw u 4 + d * pw u 6
    rw [h2, h4, h6]
    show (a + c) - (b + d) = _
    grobner
  · show crs a b c d u 3 = a + b * pw u 3 + c * pw u 6 + d * pw u 9
    rw [h3, h6, h9]
    show (a - c) - u * (b - d) = _
    grobner
theorem quarter_step (n : Nat) (w : F) (hw : pw w (2 * n) = -1) (f : Nat → F) (m r : Nat) (hr : r < 4) :
    dft (4 * n) w f (4 * m + r) = dft n (pw w 4) (fun i => crs (f i) (f (i + n)) (f (i + 2 * n)) (f (i + 3 * n)) (pw w n) r * pw w (i * r)) m := by
  have hu : pw w n * pw w n = -1 := by rw [← pw_add, ← hw]; congr 1; omega
  have h4 : pw w (4 * n) = 1 := by rw [show 4 * n = 2 * n + 2 * n by omega, pw_add, hw]; grobner
  unfold dft
  rw [sm_rows, sm_swap]
  refine sm_congr fun i _ => ?_
  rw [sm_four]
  simp only []
  rw [crs_is _ _ _ _ _ hu r hr]
  have e : ∀ j, pw w ((j * n + i) * (4 * m + r)) = pw w (4 * (i * m)) * pw w (i * r) * pw (pw w n) (j * r) := by
    intro j
    rw [show (j * n + i) * (4 * m + r) = (j * m) * (4 * n) + (4 * (i * m) + (i * r + n * (j * r))) by
      simp only [Nat.add_mul, Nat.mul_add]
      have e1 : j * n * (4 * m) = j * m * (4 * n) := by simp only [Nat.mul_assoc, Nat.mul_left_comm, Nat.mul_comm]
      have e2 : j * n * r = n * (j * r) := by simp only [Nat.mul_assoc, Nat.mul_left_comm, Nat.mul_comm]
      have e3 : i * (4 * m) = 4 * (i * m) := by simp only [Nat.mul_left_comm]
      omega, pw_red h4, pw_add, pw_add, ← pw_mul]
    grobner
  have g0 := e 0
  have g1 := e 1
  have g2 := e 2
  have g3 := e 3
  rw [g0, g1, g2, g3, ← pw_mul w 4 (i * m), Nat.zero_mul, Nat.zero_mul, Nat.zero_add, pw_zero, Nat.one_mul, Nat.one_mul, Nat.add_comm n i, Nat.add_comm (2 * n) i, Nat.add_comm (3 * n) i]
  grobner
theorem half_step (w : F) (hw : w = -1) (f : Nat → F) (j : Nat) (hj : j < 2) : dft 2 w f j = if j = 0 then f 0 + f 1 else f 0 - f 1 := by
  unfold dft
  rw [sm_two]
  rcases (by omega : j = 0 ∨ j = 1) with rfl | rfl
  · rw [if_pos rfl, Nat.mul_zero, pw_zero]; grobner
  · rw [if_neg (by decide), Nat.mul_one, Nat.mul_one, pw_zero, pw_one, hw]; grobner
def Stk (Y : Nat → F) (W : F) (n s : Nat) (x : Nat → F) : Prop := ∀ q, q < s → ∀ m, m < n → Y (q + s * m) = dft n (pw W s) (fun p => x (q + s * p)) m
theorem Stk.first (n : Nat) (W : F) (x : Nat → F) : Stk (fun j => dft n W x j) W n 1 x := by
  intro q hq m _
  obtain rfl : q = 0 := by omega
  show dft n W x (0 + 1 * m) = _
  rw [Nat.zero_add, Nat.one_mul, pw_one]
  exact dft_congr (fun i _ => by rw [Nat.zero_add, Nat.one_mul]) m
theorem Stk.last {Y : Nat → F} {W : F} {s : Nat} {x : Nat → F} (h : Stk Y W 1 s x) (q : Nat) (hq : q < s) : Y q = x q := by
  have := h q hq 0 (by omega)
  rw [dft_one] at this
  simpa using this
theorem Stk.quarter {Y : Nat → F} {W : F} {n s : Nat} {x y : Nat → F} (h : Stk Y W (4 * n) s x) (hW : pw W (s * (2 * n)) = -1) 
    (hy : ∀ q, q < s → ∀ i, i < n → ∀ r, r < 4 → y (q + s * (4 * i + r)) = crs (x (q + s * i)) (x (q + s * (i + n))) (x (q + s * (i + 2 * n))) (x (q + s * (i + 3 * n))) (pw W (s * n)) r * pw W (s * (i * r))) : Stk Y W n (4 * s) y := by
  intro q hq m hm
  have hs : 0 < s := by omega
  have hq1 := Nat.mod_lt q hs
  have hq2 : q / s < 4 := (Nat.div_lt_iff_lt_mul hs).2 (by omega)
  have hqe := Nat.div_add_mod q s
  generalize q % s = a at *
  generalize q / s = r at *
  subst hqe
  rw [show s * r + a + 4 * s * m = a + s * (4 * m + r) by rw [Nat.mul_add]; simp only [Nat.mul_left_comm, Nat.mul_assoc]; omega, h a hq1 (4 * m + r) (by omega), quarter_step n _ (by rw [← pw_mul, hW]) _ m r hq2, ← pw_mul, Nat.mul_comm s 4]
  refine dft_congr (fun i hi => ?_) m
  rw [← pw_mul, ← pw_mul]
  rw [show s * r + a + 4 * s * i = a + s * (4 * i + r) by rw [Nat.mul_add]; simp only [Nat.mul_left_comm, Nat.mul_assoc]; omega, hy a hq1 i hi r hq2]
theorem Stk.half {Y : Nat → F} {W : F} {s : Nat} {x y : Nat → F} (h : Stk Y W 2 s x) (hW : pw W s = -1) (h0 : ∀ q, q < s → y q = x q + x (q + s)) (h1 : ∀ q, q < s → y (q + s) = x q - x (q + s)) : Stk Y W 1 (2 * s) y := by
  intro q hq m hm
  obtain rfl : m = 0 := by omega
  rw [dft_one]
  show Y (q + 2 * s * 0) = y (q + 2 * s * 0)
  rw [Nat.mul_zero, Nat.add_zero]
  by_cases hqs : q < s
  · have := h q hqs 0 (by omega)
    rw [half_step _ hW _ 0 (by omega), if_pos rfl] at this
    simp only [Nat.mul_zero, Nat.add_zero, Nat.mul_one] at this
    rw [this, h0 q hqs]
  · have := h (q - s) (by omega) 1 (by omega)
    rw [half_step _ hW _ 1 (by omega), if_neg (by decide)] at this
    simp only [Nat.mul_zero, Nat.add_zero, Nat.mul_one] at this
    have h1' := h1 (q - s) (by omega)
    rw [show q - s + s = q by omega] at this h1'
    rw [this, h1']
end Go.Proofs.YtpnkcjnemoompaaDoor.Fft
end
section
namespace Go.Proofs.YtpnkcjnemoompaaDoor.Fft
set_option linter.unusedVariables false
set_option linter.unusedSimpArgs false
def pwf : Nat → F → Nat → F
  | 0, _, _ => 1
  | f + 1, x, n => if n = 0 then 1 else if n % 2 = 1 then pwf f (x * x) (n / 2) * x else pwf f (x * x) (n / 2)
theorem pw_sq (x : F) (n : Nat) : pw (x * x) n = pw x (2 * n) := by rw [pw_mul, pw_two]
theorem pwf_is (f : Nat) : ∀ (x : F) (n : Nat), n < 2 ^ f → pwf f x n = pw x n := by
  induction f with
  | zero => intro x n h; obtain rfl : n = 0 := by omega
            rfl
  | succ f ih =>
    intro x n h
    unfold pwf
    by_cases h0 : n = 0
    · rw [if_pos h0, h0]; rfl
    · rw [if_neg h0]
      have hlt : n / 2 < 2 ^ f := by rw [Nat.pow_succ] at h; omega
      by_cases h1 : n % 2 = 1
      · rw [if_pos h1, ih _ _ hlt, pw_sq, ← pw_succ]; congr 1; omega
      · rw [if_neg h1, ih _ _ hlt, pw_sq]; congr 1; omega
def rt (k : Nat) : F := pw 7 (4294967295 * 2 ^ (32 - k))
theorem rt_one : rt 1 = -1 := by
  unfold rt
  rw [← pwf_is 64 7 _ (by decide)]
  decide +kernel
theorem rt_pow (k j : Nat) (hj : j ≤ k) (hk : k ≤ 32) : pw (rt k) (2 ^ j) = rt (k - j) := by
  unfold rt
  rw [← pw_mul, Nat.mul_assoc, ← Nat.pow_add]
  congr 3; omega
theorem rt_zero : rt 0 = 1 := by
  have h := rt_pow 1 1 (by omega) (by omega)
  rw [Nat.sub_self, rt_one] at h
  rw [← h, pw_two]; grobner
def rut (k : Nat) (d : Int) : F := if d = 0 then rt k else pw (rt k) (2 ^ k - 1)
theorem rt_full (k : Nat) (hk : k ≤ 32) : pw (rt k) (2 ^ k) = 1 := by rw [rt_pow k k (Nat.le_refl _) hk, Nat.sub_self, rt_zero]
theorem two_split (k j : Nat) (hj : j ≤ k) : 2 ^ k = 2 ^ (k - j) * 2 ^ j := by rw [← Nat.pow_add]; congr 1; omega
theorem rd_pow (k j : Nat) (d : Int) (hj : j ≤ k) (hk : k ≤ 32) : pw (rut k d) (2 ^ j) = rut (k - j) d := by
  unfold rut
  by_cases h : d = 0
  · rw [if_pos h, if_pos h, rt_pow k j hj hk]
  · rw [if_neg h, if_neg h, pw_comm, rt_pow k j hj hk]
    have hf := rt_full (k - j) (by omega)
    have e : 2 ^ k - 1 = (2 ^ j - 1) * 2 ^ (k - j) + (2 ^ (k - j) - 1) := by
      have h1 := Nat.two_pow_pos j
      have h2 := Nat.two_pow_pos (k - j)
      rw [two_split k j hj, Nat.mul_comm, Nat.sub_mul, Nat.one_mul]
      have h3 : 2 ^ (k - j) ≤ 2 ^ j * 2 ^ (k - j) := Nat.le_mul_of_pos_left _ h1
      omega
    rw [e, pw_red hf]
theorem rd_zero (d : Int) : rut 0 d = 1 := by
  unfold rut
  split
  · exact rt_zero
  · rfl
theorem rd_one (d : Int) : rut 1 d = -1 := by
  unfold rut
  split
  · exact rt_one
  · rw [show 2 ^ 1 - 1 = 1 by rfl, pw_one, rt_one]
theorem rd_full (k : Nat) (d : Int) (hk : k ≤ 32) : pw (rut k d) (2 ^ k) = 1 := by rw [rd_pow k k d (Nat.le_refl _) hk, Nat.sub_self, rd_zero]
theorem rd_half (k : Nat) (d : Int) (h0 : 0 < k) (hk : k ≤ 32) : pw (rut k d) (2 ^ (k - 1)) = -1 := by
  rw [rd_pow k (k - 1) d (by omega) hk, show k - (k - 1) = 1 by omega, rd_one]
theorem rd_back (k : Nat) (hk : k ≤ 32) (d : Int) (hd : d ≠ 0) : rut k d * rut k 0 = 1 := by
  unfold rut
  rw [if_neg hd, if_pos rfl, ← pw_succ, show 2 ^ k - 1 + 1 = 2 ^ k by have := Nat.two_pow_pos k; omega, rt_full k hk]
def hf : F := 9223372034707292161
theorem hf_two : hf * 2 = 1 := by decide +kernel
def shf (k : Nat) : F := pw hf k
theorem shf_is (k : Nat) : shf k * pw 2 k = 1 := by unfold shf; rw [← mul_pw, hf_two, one_pw]
theorem shf_add (a b : Nat) : shf (a + b) = shf a * shf b := pw_add _ _ _
theorem six_steps (R C : Nat) (w : F) (hw : pw w (R * C) = 1) (f : Nat → F) (r' c' : Nat) :
    dft (R * C) w f (c' * R + r') = dft C (pw w R) (fun c => dft R (pw w C) (fun r => f (r * C + c)) r' * pw w (r' * c)) c' := by
  unfold dft
  rw [sm_rows, sm_swap]
  refine sm_congr fun c _ => ?_
  simp only []
  rw [← sm_mulr, ← sm_mulr]
  refine sm_congr fun r _ => ?_
  rw [← pw_mul, ← pw_mul, show (r * C + c) * (c' * R + r') = (r * c') * (R * C) + (C * (r * r') + (r' * c + R * (c * c'))) by
    simp only [Nat.add_mul, Nat.mul_add]
    have e1 : r * C * (c' * R) = r * c' * (R * C) := by simp only [Nat.mul_left_comm, Nat.mul_comm]
    have e2 : r * C * r' = C * (r * r') := by simp only [Nat.mul_left_comm, Nat.mul_comm]
    have e3 : c * (c' * R) = R * (c * c') := by simp only [Nat.mul_left_comm, Nat.mul_comm]
    have e4 : c * r' = r' * c := Nat.mul_comm _ _
    omega, pw_red hw, pw_add, pw_add]
  grobner
end Go.Proofs.YtpnkcjnemoompaaDoor.Fft
end
section
set_option linter.unusedVariables false
set_option linter.unusedSimpArgs false
namespace Go.Proofs.YtpnkcjnemoompaaDoor.Fft
open Go.RowKit Go.Proofs.YtpnkcjnemoompaaDoor Go.Proofs.YtpnkcjnemoompaaDoor.Pure Go.Proofs.YtpnkcjnemoompaaDoor.PPlan Go.Proofs.YtpnkcjnemoompaaDoor.PFft Go.Proofs.YtpnkcjnemoompaaDoor.Ext Go.Proofs.YtpnkcjnemoompaaDoorW.PrintWords Go.Proofs.YtpnkcjnemoompaaDoorW.PrintLast Go.Proofs.YtpnkcjnemoompaaDoorW.PrintMore
def fo (z : Int) : F := ⟨z.toNat % 18446744069414584321, by omega⟩
def fv (x : F) : Int := ((x.val : Nat) : Int)
theorem fv_range (x : F) : 0 ≤ fv x ∧ fv x < 18446744069414584321 := by
  have := x.isLt
  unfold fv; omega
theorem fo_fv (x : F) : fo (fv x) = x := by
  apply Fin.ext
  show ((x.val : Nat) : Int).toNat % 18446744069414584321 = x.val
  rw [Int.toNat_natCast, Nat.mod_eq_of_lt x.isLt]
theorem fv_fo (z : Int) (h : 0 ≤ z) : fv (fo z) = z % 18446744069414584321 := by
  obtain ⟨n, rfl⟩ := Int.eq_ofNat_of_zero_le h
  show (((n : Int).toNat % 18446744069414584321 : Nat) : Int) = _
  rw [Int.toNat_natCast]; rfl
theorem fv_inj {x y : F} (h : fv x = fv y) : x = y := by rw [← fo_fv x, h, fo_fv]
theorem fv_mul (x y : F) : fv (x * y) = fv x * fv y % 18446744069414584321 := by
  show (((x * y).val : Nat) : Int) = _
  rw [Fin.val_mul]
  show ((x.val * y.val % 18446744069414584321 : Nat) : Int) = _
  rw [Int.natCast_emod, Int.natCast_mul]; rfl
theorem fv_add (x y : F) : fv (x + y) = (fv x + fv y) % 18446744069414584321 := by
  show (((x + y).val : Nat) : Int) = _
  rw [Fin.val_add]
  show (((x.val + y.val) % 18446744069414584321 : Nat) : Int) = _
  rw [Int.natCast_emod, Int.natCast_add]; rfl
theorem fo_mul (a b : Int) (ha : 0 ≤ a) (hb : 0 ≤ b) : fo (a * b) = fo a * fo b := by
  apply fv_inj
  rw [fv_mul, fv_fo _ (Int.mul_nonneg ha hb), fv_fo a ha, fv_fo b hb, ← Int.mul_emod]
theorem fo_add (a b : Int) (ha : 0 ≤ a) (hb : 0 ≤ b) : fo (a + b) = fo a + fo b := by
  apply fv_inj
  rw [fv_add, fv_fo _ (by omega), fv_fo a ha, fv_fo b hb, ← Int.add_emod]
theorem fo_one : fo 1 = 1 := rfl
theorem fo_zero : fo 0 = 0 := rfl
theorem fv_one : fv 1 = 1 := rfl
theorem fv_zero : fv 0 = 0 := rfl
abbrev W64 (a : Int) : Prop := 0 ≤ a ∧ a < 18446744073709551616
theorem fv_w (x : F) : W64 (fv x) := by have := fv_range x; omega
theorem gOf (a : Int) (h : W64 a) : gold_Of.f a = some (fv (fo a)) := by
  rw [fv_fo a h.1]
  unfold gold_Of.f
  split
  · rw [IntKind.wrap_u64]; congr 1; omega
  · congr 1; omega
theorem and_low (x : Nat) (h : x < 18446744073709551616) : Go.bits .and .u64 (x : Int) 4294967295 = ((x % 4294967296 : Nat) : Int) := by
  have e := (bits_nat .u64 64 (by decide) (fun n h0 h1 => by
    rw [show (2 : Int) ^ 64 = 18446744073709551616 by decide] at h1
    rw [IntKind.wrap_u64]; omega) x 4294967295 (by rw [e64]; exact h) (by rw [e64]; decide)).1
  have e2 : x &&& 4294967295 = x % 4294967296 := by
    have := Nat.and_two_pow_sub_one_eq_mod x 32
    simpa using this
  rw [← e2]
  exact e
theorem gReduce (h l : Int) (hh : W64 h) (hl : W64 l) : gold_Reduce.f h l = some ((h * 18446744073709551616 + l) % 18446744069414584321) := by
  obtain ⟨x, rfl⟩ := Int.eq_ofNat_of_zero_le hh.1
  obtain ⟨h0, h1⟩ := hh
  obtain ⟨l0, l1⟩ := hl
  have key : ∀ (t m : Int), 0 ≤ t → t < 18446744073709551616 → 0 ≤ m → m < 18446744073709551616 - 4294967296 → (t + m) % 18446744069414584321 = ((x : Int) * 18446744073709551616 + l) % 18446744069414584321 →
      (if IntKind.u64.wrap (t + m) < m then (gold_Of.f (IntKind.u64.wrap (IntKind.u64.wrap (t + m) + 4294967295))).bind fun t105 => some t105 else (gold_Of.f (IntKind.u64.wrap (t + m))).bind fun t106 => some t106) = some (((x : Int) * 18446744073709551616 + l) % 18446744069414584321) := by
    intro t m t0 t1 m0 m1 he
    rw [← he]
    rw [IntKind.wrap_u64 (t + m)]
    split
    · rw [IntKind.wrap_u64, gOf _ (by omega), Option.bind_some, fv_fo _ (by omega)]
      congr 1; omega
    · rw [gOf _ (by omega), Option.bind_some, fv_fo _ (by omega)]
      congr 1; omega
  unfold gold_Reduce.f
  rw [and_low x (by omega)]
  have em : IntKind.u64.wrap (((x % 4294967296 : Nat) : Int) * 4294967295) = ((x % 4294967296 : Nat) : Int) * 4294967295 := by rw [IntKind.wrap_u64]; omega
  rw [em]
  by_cases c : l < (x : Int) / 4294967296
  · rw [if_pos c]
    have et : IntKind.u64.wrap (IntKind.u64.wrap (l - (x : Int) / 4294967296) - 4294967295) = l - (x : Int) / 4294967296 + 18446744069414584321 := by rw [IntKind.wrap_u64, IntKind.wrap_u64]; omega
    rw [et]
    exact key _ _ (by omega) (by omega) (by omega) (by omega) (by omega)
  · rw [if_neg c]
    have et : IntKind.u64.wrap (l - (x : Int) / 4294967296) = l - (x : Int) / 4294967296 := by rw [IntKind.wrap_u64]; omega
    rw [et]
    exact key _ _ (by omega) (by omega) (by omega) (by omega) (by omega)
theorem gMul (a b : Int) (ha : W64 a) (hb : W64 b) : gold_Mul.f a b = some (fv (fo a * fo b)) := by
  have hab : 0 ≤ a * b := Int.mul_nonneg ha.1 hb.1
  have hlt : a * b < 18446744073709551616 * 18446744073709551616 := by
    have h1 : a * b ≤ a * 18446744073709551616 := Int.mul_le_mul_of_nonneg_left (by omega) ha.1
    have h2 : a * 18446744073709551616 < 18446744073709551616 * 18446744073709551616 := Int.mul_lt_mul_of_pos_right ha.2 (by decide)
    omega
  unfold gold_Mul.f wide_Mul.f bits_Mul64.f
  rw [if_pos (by omega), Option.bind_some, Option.bind_some]
  simp only []
  rw [gReduce _ _ (by omega) (by omega), Option.bind_some, ← fo_mul a b ha.1 hb.1, fv_fo _ hab]
  congr 2
  have := Int.mul_ediv_add_emod (a * b) 18446744073709551616
  omega
theorem gNeg (a : Int) (ha : W64 a) : gold_Neg.f a = some (fv (- fo a)) := by
  unfold gold_Neg.f
  rw [gOf a ha, Option.bind_some]
  have hr := fv_range (fo a)
  have e : fv (- fo a) = if fv (fo a) = 0 then 0 else 18446744069414584321 - fv (fo a) := by
    have h1 : fv (-fo a + fo a) = 0 := by rw [show -fo a + fo a = (0 : F) by grobner]; rfl
    rw [fv_add] at h1
    have hr2 := fv_range (-fo a)
    split <;> omega
  rw [e]
  split
  · rfl
  · rw [IntKind.wrap_u64]; congr 1; omega
theorem gAdd (a b : Int) (ha : W64 a) (hb : W64 b) : gold_Add.f a b = some (fv (fo a + fo b)) := by
  unfold gold_Add.f
  have h1 := fv_range (fo a)
  have h2 := fv_range (fo b)
  rw [gOf a ha, Option.bind_some, gOf b hb, Option.bind_some]
  unfold wide_Add.f
  rw [if_pos (by omega), Option.bind_some]
  simp only []
  rw [gReduce _ _ (by omega) (by omega), Option.bind_some, fv_add]
  congr 1
  generalize fv (fo a) = x at *
  generalize fv (fo b) = y at *
  by_cases q : x + y < 18446744073709551616
  · rw [show (x + y) / 18446744073709551616 = 0 by omega, show (x + y) % 18446744073709551616 = x + y by omega]; omega
  · rw [show (x + y) / 18446744073709551616 = 1 by omega, show (x + y) % 18446744073709551616 = x + y - 18446744073709551616 by omega]; omega
theorem gSub (a b : Int) (ha : W64 a) (hb : W64 b) : gold_Sub.f a b = some (fv (fo a - fo b)) := by
  unfold gold_Sub.f
  rw [gNeg b hb, Option.bind_some, gAdd a _ ha (fv_w _), Option.bind_some, fo_fv]
  congr 2; grobner
theorem rOf (a : Int) (h : 0 ≤ a) : abacistref02_Of.f a = some (fv (fo a)) := by
  unfold abacistref02_Of.f
  rw [fv_fo a h, Int.tmod_eq_emod_of_nonneg h]
theorem rAdd (a b : Int) (ha : 0 ≤ a) (hb : 0 ≤ b) : abacistref02_Add.f a b = some (fv (fo a + fo b)) := by
  have h1 := fv_range (fo a)
  have h2 := fv_range (fo b)
  unfold abacistref02_Add.f
  rw [rOf a ha, Option.bind_some, rOf b hb, Option.bind_some, fv_add]
  have e : IntKind.u64.wrap (18446744069414584321 - fv (fo b)) = 18446744069414584321 - fv (fo b) := by rw [IntKind.wrap_u64]; omega
  rw [e]
  split
  · rw [IntKind.wrap_u64]; congr 1; omega
  · rw [IntKind.wrap_u64]; congr 1; omega
end Go.Proofs.YtpnkcjnemoompaaDoor.Fft
end
section
set_option linter.unusedVariables false
set_option linter.unusedSimpArgs false
namespace Go.Proofs.YtpnkcjnemoompaaDoor.Fft
open Go.RowKit Go.Proofs.YtpnkcjnemoompaaDoor Go.Proofs.YtpnkcjnemoompaaDoor.Pure Go.Proofs.YtpnkcjnemoompaaDoor.PPlan Go.Proofs.YtpnkcjnemoompaaDoor.PFft Go.Proofs.YtpnkcjnemoompaaDoor.Ext Go.Proofs.YtpnkcjnemoompaaDoorW.PrintWords Go.Proofs.YtpnkcjnemoompaaDoorW.PrintLast Go.Proofs.YtpnkcjnemoompaaDoorW.PrintMore
def nf (n : Nat) : F := fo (n : Int)
theorem nf_zero : nf 0 = 0 := rfl
theorem nf_even (n : Nat) : nf (2 * n) = nf n + nf n := by
  unfold nf
  rw [show ((2 * n : Nat) : Int) = (n : Int) + (n : Int) by omega, fo_add _ _ (by omega) (by omega)]
theorem nf_odd (n : Nat) : nf (2 * n + 1) = nf n + nf n + 1 := by
  unfold nf
  rw [show ((2 * n + 1 : Nat) : Int) = ((n : Int) + (n : Int)) + 1 by omega, fo_add _ _ (by omega) (by omega), fo_add _ _ (by omega) (by omega)]; rfl
theorem tdiv2 (b : Nat) (h : b < 18446744073709551616) : IntKind.u64.wrap (Int.tdiv (b : Int) 2) = ((b / 2 : Nat) : Int) := by rw [IntKind.wrap_u64, Int.tdiv_eq_ediv_of_nonneg (by omega)]; omega
theorem tmod2 (b : Nat) : Int.tmod (b : Int) 2 = ((b % 2 : Nat) : Int) := by rw [Int.tmod_eq_emod_of_nonneg (by omega)]; omega
theorem rMul_loop (n : Nat) : ∀ (b : Nat) (A S : F), b < 2 ^ n → b < 18446744073709551616 → Ev (fun k => abacistref02_Mul.l0 k (fv A) (b : Int) (fv S)) (fv (S + A * nf b)) := by
  induction n with
  | zero =>
    intro b A S h _
    obtain rfl : b = 0 := by omega
    refine Ev.step (f := fun _ => some (fv S)) (fun k => ?_) (by rw [nf_zero, show S + A * 0 = S by grobner]; exact Ev.now _)
    simp only [abacistref02_Mul.l0]
    rw [if_neg (by decide)]
  | succ n ih =>
    intro b A S h h64
    by_cases h0 : b = 0
    · subst h0
      refine Ev.step (f := fun _ => some (fv S)) (fun k => ?_) (by rw [nf_zero, show S + A * 0 = S by grobner]; exact Ev.now _)
      simp only [abacistref02_Mul.l0]
      rw [if_neg (by decide)]
    · have hlt : b / 2 < 2 ^ n := by rw [Nat.pow_succ] at h; omega
      have e1 := rAdd (fv A) (fv A) (fv_range A).1 (fv_range A).1
      have e2 := rAdd (fv S) (fv A) (fv_range S).1 (fv_range A).1
      rw [fo_fv] at e1 e2
      rw [fo_fv] at e2
      by_cases hm : b % 2 = 1
      · refine Ev.step (f := fun k => abacistref02_Mul.l0 k (fv (A + A)) ((b / 2 : Nat) : Int) (fv (S + A))) (fun k => ?_) ?_
        · simp only [abacistref02_Mul.l0]
          rw [if_pos (by omega), tmod2, if_pos (by omega), e2, Option.bind_some, e1, Option.bind_some, tdiv2 b h64]
        · have := ih (b / 2) (A + A) (S + A) hlt (by omega)
          rw [show S + A * nf b = S + A + (A + A) * nf (b / 2) by
            obtain ⟨m, rfl⟩ : ∃ m, b = 2 * m + 1 := ⟨b / 2, by omega⟩
            rw [nf_odd, show (2 * m + 1) / 2 = m by omega]; grobner]
          exact this
      · refine Ev.step (f := fun k => abacistref02_Mul.l0 k (fv (A + A)) ((b / 2 : Nat) : Int) (fv S)) (fun k => ?_) ?_
        · simp only [abacistref02_Mul.l0]
          rw [if_pos (by omega), tmod2, if_neg (by omega), e1, Option.bind_some, tdiv2 b h64]
        · have := ih (b / 2) (A + A) S hlt (by omega)
          rw [show S + A * nf b = S + (A + A) * nf (b / 2) by
            obtain ⟨m, rfl⟩ : ∃ m, b = 2 * m := ⟨b / 2, by omega⟩
            rw [nf_even, show 2 * m / 2 = m by omega]; grobner]
          exact this
theorem rMul (a b : Int) (ha : 0 ≤ a) (hb : W64 b) : Ev (fun k => abacistref02_Mul.f k a b) (fv (fo a * fo b)) := by
  obtain ⟨n, rfl⟩ := Int.eq_ofNat_of_zero_le hb.1
  unfold abacistref02_Mul.f
  refine Ev.bind (Ev_eq (rOf a ha)) ?_
  have := rMul_loop 64 n (fo a) 0 (by rw [e64]; omega) (by omega)
  rw [show (0 : F) + fo a * nf n = fo a * fo (n : Int) by unfold nf; grobner] at this
  exact this
theorem rMulF (A B : F) : Ev (fun k => abacistref02_Mul.f k (fv A) (fv B)) (fv (A * B)) := by
  have := rMul (fv A) (fv B) (fv_range A).1 (fv_w B)
  rw [fo_fv, fo_fv] at this
  exact this
theorem rAddF (A B : F) : abacistref02_Add.f (fv A) (fv B) = some (fv (A + B)) := by
  have := rAdd (fv A) (fv B) (fv_range A).1 (fv_range B).1
  rw [fo_fv, fo_fv] at this
  exact this
theorem gMulF (A B : F) : gold_Mul.f (fv A) (fv B) = some (fv (A * B)) := by
  have := gMul (fv A) (fv B) (fv_w A) (fv_w B)
  rw [fo_fv, fo_fv] at this
  exact this
theorem pw_half (A : F) (b : Nat) (S : F) : S * pw A b = if b % 2 = 1 then S * A * pw (A * A) (b / 2) else S * pw (A * A) (b / 2) := by
  split
  · rename_i h
    obtain ⟨m, rfl⟩ : ∃ m, b = 2 * m + 1 := ⟨b / 2, by omega⟩
    rw [show (2 * m + 1) / 2 = m by omega, pw_sq, pw_succ]; grobner
  · rename_i h
    obtain ⟨m, rfl⟩ : ∃ m, b = 2 * m := ⟨b / 2, by omega⟩
    rw [show 2 * m / 2 = m by omega, pw_sq]
theorem rPow_loop (n : Nat) : ∀ (b : Nat) (A S : F), b < 2 ^ n → b < 18446744073709551616 → Ev (fun k => abacistref02_Pow.l0 k (fv A) (b : Int) (fv S)) (fv (S * pw A b)) := by
  induction n with
  | zero =>
    intro b A S h _
    obtain rfl : b = 0 := by omega
    refine Ev.step (f := fun _ => some (fv S)) (fun k => ?_) (by rw [pw_zero, show S * 1 = S by grobner]; exact Ev.now _)
    simp only [abacistref02_Pow.l0]
    rw [if_neg (by decide)]
  | succ n ih =>
    intro b A S h h64
    by_cases h0 : b = 0
    · subst h0
      refine Ev.step (f := fun _ => some (fv S)) (fun k => ?_) (by rw [pw_zero, show S * 1 = S by grobner]; exact Ev.now _)
      simp only [abacistref02_Pow.l0]
      rw [if_neg (by decide)]
    · have hlt : b / 2 < 2 ^ n := by rw [Nat.pow_succ] at h; omega
      rw [pw_half]
      by_cases hm : b % 2 = 1
      · rw [if_pos hm]
        refine Ev.step (f := fun k => (abacistref02_Mul.f k (fv S) (fv A)).bind fun t => (abacistref02_Mul.f k (fv A) (fv A)).bind fun u => abacistref02_Pow.l0 k u ((b / 2 : Nat) : Int) t) (fun k => ?_) (Ev.bind (rMulF S A) (Ev.bind (rMulF A A) (ih (b / 2) (A * A) (S * A) hlt (by omega))))
        simp only [abacistref02_Pow.l0]
        rw [if_pos (by omega), tmod2, if_pos (by omega), tdiv2 b h64]
      · rw [if_neg hm]
        refine Ev.step (f := fun k => (abacistref02_Mul.f k (fv A) (fv A)).bind fun u => abacistref02_Pow.l0 k u ((b / 2 : Nat) : Int) (fv S)) (fun k => ?_) (Ev.bind (rMulF A A) (ih (b / 2) (A * A) S hlt (by omega)))
        simp only [abacistref02_Pow.l0]
        rw [if_pos (by omega), tmod2, if_neg (by omega), tdiv2 b h64]
theorem rPow (a b : Int) (ha : 0 ≤ a) (hb : W64 b) : Ev (fun k => abacistref02_Pow.f k a b) (fv (pw (fo a) b.toNat)) := by
  obtain ⟨n, rfl⟩ := Int.eq_ofNat_of_zero_le hb.1
  unfold abacistref02_Pow.f
  refine Ev.bind (Ev_eq (rOf a ha)) ?_
  have := rPow_loop 64 n (fo a) 1 (by rw [e64]; omega) (by omega)
  rw [show (1 : F) * pw (fo a) n = pw (fo a) n by grobner] at this
  exact this
theorem and_one (b : Nat) (h : b < 18446744073709551616) : Go.bits .and .u64 (b : Int) 1 = ((b % 2 : Nat) : Int) := by
  have e := (bits_nat .u64 64 (by decide) (fun n h0 h1 => by
    rw [show (2 : Int) ^ 64 = 18446744073709551616 by decide] at h1
    rw [IntKind.wrap_u64]; omega) b 1 (by rw [e64]; exact h) (by rw [e64]; decide)).1
  rw [← Nat.and_one_is_mod]
  exact e
theorem gPow_loop (n : Nat) : ∀ (b : Nat) (A S : F), b < 2 ^ n → b < 18446744073709551616 → Ev (fun k => gold_Pow.l0 k (b : Int) (fv S) (fv A)) (fv (S * pw A b)) := by
  induction n with
  | zero =>
    intro b A S h _
    obtain rfl : b = 0 := by omega
    refine Ev.step (f := fun _ => some (fv S)) (fun k => ?_) (by rw [pw_zero, show S * 1 = S by grobner]; exact Ev.now _)
    simp only [gold_Pow.l0]
    rw [if_neg (by decide)]
  | succ n ih =>
    intro b A S h h64
    by_cases h0 : b = 0
    · subst h0
      refine Ev.step (f := fun _ => some (fv S)) (fun k => ?_) (by rw [pw_zero, show S * 1 = S by grobner]; exact Ev.now _)
      simp only [gold_Pow.l0]
      rw [if_neg (by decide)]
    · have hlt : b / 2 < 2 ^ n := by rw [Nat.pow_succ] at h; omega
      have e2 : (b : Int) / 2 = ((b / 2 : Nat) : Int) := by omega
      rw [pw_half]
      by_cases hm : b % 2 = 1
      · rw [if_pos hm]
        refine Ev.step (f := fun k => gold_Pow.l0 k ((b / 2 : Nat) : Int) (fv (S * A)) (fv (A * A))) (fun k => ?_) (ih (b / 2) (A * A) (S * A) hlt (by omega))
        simp only [gold_Pow.l0]
        rw [if_pos (by omega), and_one b h64, if_pos (by omega), gMulF, Option.bind_some, gMulF, Option.bind_some, e2]
      · rw [if_neg hm]
        refine Ev.step (f := fun k => gold_Pow.l0 k ((b / 2 : Nat) : Int) (fv S) (fv (A * A))) (fun k => ?_) (ih (b / 2) (A * A) S hlt (by omega))
        simp only [gold_Pow.l0]
        rw [if_pos (by omega), and_one b h64, if_neg (by omega), gMulF, Option.bind_some, e2]
theorem gPow (a b : Int) (ha : W64 a) (hb : W64 b) : Ev (fun k => gold_Pow.f k a b) (fv (pw (fo a) b.toNat)) := by
  obtain ⟨n, rfl⟩ := Int.eq_ofNat_of_zero_le hb.1
  unfold gold_Pow.f
  refine Ev.bind (Ev_eq (gOf a ha)) ?_
  have := gPow_loop 64 n (fo a) 1 (by rw [e64]; omega) (by omega)
  rw [show (1 : F) * pw (fo a) n = pw (fo a) n by grobner] at this
  exact this
theorem half_pow (k : Nat) (hk : k ≤ 32) : 18446744069414584320 / 2 ^ k = 4294967295 * 2 ^ (32 - k) := by
  have e : (18446744069414584320 : Nat) = 4294967295 * 2 ^ (32 - k) * 2 ^ k := by
    rw [Nat.mul_assoc, ← Nat.pow_add, show 32 - k + k = 32 by omega]
  rw [e, Nat.mul_div_cancel _ (Nat.two_pow_pos k)]
theorem groot (k : Nat) (hk : k ≤ 32) : Ev (fun n => root_root.f n (k : Int)) (fv (rt k)) := by
  unfold root_root.f
  have ew : IntKind.u64.wrap (k : Int) = (k : Int) := by rw [IntKind.wrap_u64]; omega
  rw [ew]
  have es : shr .u64 18446744069414584320 (k : Int) = ((18446744069414584320 / 2 ^ k : Nat) : Int) := shr_u 18446744069414584320 k (by omega)
  rw [es, half_pow k hk]
  have hb : 4294967295 * 2 ^ (32 - k) ≤ 18446744069414584320 := by rw [← half_pow k hk]; exact Nat.div_le_self _ _
  refine Ev_if (by omega) (Ev.bind (gPow 7 _ (by decide) (by omega)) ?_)
  rw [Int.toNat_natCast]
  exact Ev.now _
theorem ggood (k : Nat) (hk : k ≤ 32) : root_good.f (k : Int) = some true := by
  unfold root_good.f
  rw [if_pos (by omega), decide_eq_true (by omega)]
theorem rt_inv (k : Nat) (hk : k ≤ 32) : pw (rt k) 18446744069414584319 = rut k 1 := by
  unfold rut
  rw [if_neg (by decide)]
  have e : (18446744069414584319 : Nat) = (4294967295 * 2 ^ (32 - k) - 1) * 2 ^ k + (2 ^ k - 1) := by
    have hp := Nat.two_pow_pos k
    have hq := Nat.two_pow_pos (32 - k)
    have e : (18446744069414584320 : Nat) = 4294967295 * 2 ^ (32 - k) * 2 ^ k := by
      rw [Nat.mul_assoc, ← Nat.pow_add, show 32 - k + k = 32 by omega]
    rw [Nat.sub_mul, Nat.one_mul, ← e]
    have : 2 ^ k ≤ 4294967295 * 2 ^ (32 - k) * 2 ^ k := Nat.le_mul_of_pos_left _ (by omega)
    omega
  rw [e, pw_red (rt_full k hk)]
theorem rt_ne (k : Nat) (hk : k ≤ 32) : fv (rt k) ≠ 0 := by
  intro h
  have h0 : rt k = 0 := fv_inj (by rw [h, fv_zero])
  have h1 := rd_back k hk 1 (by decide)
  unfold rut at h1
  rw [if_pos rfl, h0] at h1
  have : (0 : F) = 1 := by rw [← h1]; grobner
  exact absurd this (by decide)
theorem gInv (a : Int) (ha : W64 a) (h : fo a ≠ 0) : Ev (fun n => gold_Inv.f n a) (fv (pw (fo a) 18446744069414584319), 0) := by
  unfold gold_Inv.f
  refine Ev.bind (Ev_eq (gOf a ha)) (Ev_ifn (fun h0 => h (fv_inj (by rw [h0, fv_zero]))) (Ev.bind (gPow a 18446744069414584319 ha (by decide)) (Ev.now _)))
theorem gRoot (k : Nat) (hk : k ≤ 32) (d : Int) (hd : d = 0 ∨ d = 1) : Ev (fun n => twid_Root.f n (k : Int) d) (fv (rut k d), 0) := by
  unfold twid_Root.f
  refine Ev_ifn (by omega) ?_
  rw [decide_eq_false (by omega)]
  rcases hd with rfl | rfl
  · refine Ev.step (f := fun n => (root_Root.f n (k : Int)).bind fun b => some (b.1, b.2)) (fun n => ?_) ?_
    · simp only [twid_Root.j0]
      rw [if_neg (by decide), if_pos trivial]
    · refine Ev.bind (a := (fv (rt k), 0)) ?_ (by unfold rut; rw [if_pos rfl]; exact Ev.now _)
      unfold root_Root.f
      exact Ev.bind (Ev_eq (ggood k hk)) (Ev_if rfl (Ev.bind (groot k hk) (Ev.now _)))
  · refine Ev.step (f := fun n => (root_Back.f n (k : Int)).bind fun b => some (b.1, b.2)) (fun n => ?_) ?_
    · simp only [twid_Root.j0]
      rw [if_neg (by decide), if_neg (by decide), if_pos trivial]
    · refine Ev.bind (a := (fv (rut k 1), 0)) ?_ (Ev.now _)
      unfold root_Back.f
      refine Ev.bind (Ev_eq (ggood k hk)) (Ev_if rfl (Ev.bind (groot k hk) (Ev.bind (a := (fv (rut k 1), 0)) ?_ (Ev.now _))))
      have := gInv (fv (rt k)) (fv_w _) (by rw [fo_fv]; intro h; exact rt_ne k hk (by rw [h, fv_zero]))
      rw [fo_fv, rt_inv k hk] at this
      exact this
theorem r3Root_loop (k : Nat) (hk : k ≤ 32) (j : Nat) : ∀ i, i + j = k → Ev (fun n => abacistref03_Root.l0 n (k : Int) ((18446744069414584320 / 2 ^ i : Nat) : Int) (i : Int)) (fv (rt k)) := by
  induction j with
  | zero =>
    intro i h
    obtain rfl : i = k := by omega
    refine Ev.step (f := fun n => (abacistref02_Pow.f n 7 ((18446744069414584320 / 2 ^ i : Nat) : Int)).bind fun t => some t) (fun n => ?_) ?_
    · simp only [abacistref03_Root.l0]
      rw [if_neg (by omega)]
    · rw [half_pow i hk]
      have hb : 4294967295 * 2 ^ (32 - i) ≤ 18446744069414584320 := by rw [← half_pow i hk]; exact Nat.div_le_self _ _
      refine Ev.bind (rPow 7 _ (by decide) (by omega)) ?_
      rw [Int.toNat_natCast]
      exact Ev.now _
  | succ j ih =>
    intro i h
    refine Ev.step (f := fun n => abacistref03_Root.l0 n (k : Int) ((18446744069414584320 / 2 ^ (i + 1) : Nat) : Int) ((i + 1 : Nat) : Int)) (fun n => ?_) (ih (i + 1) (by omega))
    simp only [abacistref03_Root.l0]
    have hle : 18446744069414584320 / 2 ^ i ≤ 18446744069414584320 := Nat.div_le_self _ _
    rw [if_pos (by omega), tdiv2 _ (by omega), Nat.div_div_eq_div_mul, ← Nat.pow_succ, wrap_i _ (by omega) (by omega)]; rfl
theorem r3Root (k : Nat) (hk : k ≤ 32) : Ev (fun n => abacistref03_Root.f n (k : Int)) (fv (rt k)) := r3Root_loop k hk k 0 (by omega)
theorem r8Root_loop (k : Nat) (hk : k ≤ 32) (j : Nat) : ∀ i, i + j = k → Ev (fun n => abacistref08_Root.l0 n (k : Int) (fv (rt k)) ((2 ^ i : Nat) : Int) (i : Int)) (fv (rut k 1)) := by
  induction j with
  | zero =>
    intro i h
    obtain rfl : i = k := by omega
    have hp := pow32 hk
    have hp0 := Nat.two_pow_pos i
    have e1 : IntKind.u64.wrap (((2 ^ i : Nat) : Int) - 1) = ((2 ^ i - 1 : Nat) : Int) := by
      generalize 2 ^ i = y at *
      rw [IntKind.wrap_u64]; omega
    refine Ev.step (f := fun n => (abacistref02_Pow.f n (fv (rt i)) ((2 ^ i - 1 : Nat) : Int)).bind fun t => some t) (fun n => ?_) ?_
    · simp only [abacistref08_Root.l0]
      rw [if_neg (by omega), e1]
    · refine Ev.bind (rPow (fv (rt i)) _ (fv_range _).1 (by generalize 2 ^ i = y at *; omega)) ?_
      rw [Int.toNat_natCast, fo_fv]
      exact Ev.now _
  | succ j ih =>
    intro i h
    have hp := pow32 (k := i + 1) (by omega)
    refine Ev.step (f := fun n => abacistref08_Root.l0 n (k : Int) (fv (rt k)) ((2 ^ (i + 1) : Nat) : Int) ((i + 1 : Nat) : Int)) (fun n => ?_) (ih (i + 1) (by omega))
    simp only [abacistref08_Root.l0]
    have e1 : IntKind.u64.wrap (2 * ((2 ^ i : Nat) : Int)) = ((2 ^ (i + 1) : Nat) : Int) := by
      rw [Nat.pow_succ] at hp ⊢
      generalize 2 ^ i = y at *
      rw [IntKind.wrap_u64]; omega
    rw [if_pos (by omega), e1, wrap_i _ (by omega) (by omega)]; rfl
theorem r8Root (k : Nat) (hk : k ≤ 32) (d : Int) (hd : d = 0 ∨ d = 1) : Ev (fun n => abacistref08_Root.f n (k : Int) d) (fv (rut k d)) := by
  unfold abacistref08_Root.f
  refine Ev.bind (r3Root k hk) ?_
  rcases hd with rfl | rfl
  · exact Ev_if rfl (by unfold rut; rw [if_pos rfl]; exact Ev.now _)
  · exact Ev_ifn (by decide) (r8Root_loop k hk k 0 (by omega))
theorem two_full : pw 2 18446744069414584320 = 1 := by
  rw [← pwf_is 64 2 _ (by decide)]
  decide +kernel
theorem nf_two (k : Nat) : nf (2 ^ k) = pw 2 k := by
  induction k with
  | zero => rfl
  | succ k ih => rw [Nat.pow_succ, Nat.mul_comm, nf_even, ih, pw_succ]; grobner
theorem shf_inv (k : Nat) : pw (pw 2 k) 18446744069414584319 = shf k := by
  have h1 := shf_is k
  have h2 : pw (pw 2 k) 18446744069414584319 * pw 2 k = 1 := by rw [← pw_succ, pw_comm, two_full, one_pw]
  generalize pw (pw 2 k) 18446744069414584319 = a at *
  generalize pw 2 k = b at *
  generalize shf k = c at *
  grobner
theorem gShare (k : Nat) (hk : k ≤ 32) : Ev (fun n => twid_Share.f n (k : Int)) (fv (shf k), 0) := by
  unfold twid_Share.f
  have ew : IntKind.u64.wrap (k : Int) = (k : Int) := by rw [IntKind.wrap_u64]; omega
  rw [ew]
  have hp := pow32 hk
  have es : shl .u64 1 (k : Int) = ((2 ^ k : Nat) : Int) := by
    have := shl_u 1 k (by omega)
    rw [Nat.one_mul, Nat.mod_eq_of_lt (by omega)] at this
    exact this
  rw [es]
  refine Ev_ifn (by omega) (Ev_ifn (by omega) (Ev_if (by omega) (Ev.bind (a := (fv (shf k), 0)) ?_ (Ev.now _))))
  have hn : fo ((2 ^ k : Nat) : Int) = pw 2 k := nf_two k
  have hw : W64 ((2 ^ k : Nat) : Int) := by
    clear hn es
    generalize 2 ^ k = y at *
    omega
  have := gInv ((2 ^ k : Nat) : Int) hw (by
    rw [hn]
    intro h
    have h1 := shf_is k
    rw [h] at h1
    have : (0 : F) = 1 := by rw [← h1]; grobner
    exact absurd this (by decide))
  rw [hn, shf_inv] at this
  exact this
theorem rShare (k : Nat) (hk : k ≤ 32) : Ev (fun n => abacistref08_Share.f n (k : Int)) (fv (shf k)) := by
  unfold abacistref08_Share.f
  have ew : IntKind.u64.wrap (k : Int) = (k : Int) := by rw [IntKind.wrap_u64]; omega
  rw [ew]
  refine Ev.bind (rPow 9223372034707292161 (k : Int) (by decide) (by omega)) ?_
  rw [Int.toNat_natCast]
  exact Ev.now _
end Go.Proofs.YtpnkcjnemoompaaDoor.Fft
end
section
set_option linter.unusedVariables false
set_option linter.unusedSimpArgs false
namespace Go.Proofs.YtpnkcjnemoompaaDoor.Fft
open Go.RowKit Go.Proofs.YtpnkcjnemoompaaDoor Go.Proofs.YtpnkcjnemoompaaDoor.Pure Go.Proofs.YtpnkcjnemoompaaDoor.PPlan Go.Proofs.YtpnkcjnemoompaaDoor.PFft Go.Proofs.YtpnkcjnemoompaaDoor.Ext Go.Proofs.YtpnkcjnemoompaaDoorW.PrintWords Go.Proofs.YtpnkcjnemoompaaDoorW.PrintLast Go.Proofs.YtpnkcjnemoompaaDoorW.PrintMore
def tb (n : Nat) (f : Nat → F) : List Int := (List.range n).map fun i => fv (f i)
theorem tb_len (n : Nat) (f : Nat → F) : (tb n f).length = n := by simp [tb]
theorem tb_zero (f : Nat → F) : tb 0 f = [] := rfl
theorem tb_succ (n : Nat) (f : Nat → F) : tb (n + 1) f = tb n f ++ [fv (f n)] := by simp [tb, List.range_succ]
theorem tb_congr {n : Nat} {f g : Nat → F} (h : ∀ i, i < n → f i = g i) : tb n f = tb n g := by
  unfold tb
  refine List.map_congr_left fun i hi => ?_
  rw [h i (List.mem_range.1 hi)]
theorem tb_get {n : Nat} (f : Nat → F) {i : Nat} (h : i < n) : (tb n f).getD i 0 = fv (f i) := by
  simp [tb, List.getD, h]
theorem rdn (l : List Int) (i : Nat) : rd l (i : Int) = l.getD i 0 := by unfold rd; rw [Int.toNat_natCast]
def el (l : List Int) (i : Nat) : F := fo (l.getD i 0)
theorem el_tb {n : Nat} (f : Nat → F) {i : Nat} (h : i < n) : el (tb n f) i = f i := by unfold el; rw [tb_get f h, fo_fv]
def Ws (l : List Int) : Prop := ∀ i, W64 (l.getD i 0)
theorem tb_ws (n : Nat) (f : Nat → F) : Ws (tb n f) := by
  intro i
  by_cases h : i < n
  · rw [tb_get f h]; exact fv_w _
  · have : (tb n f)[i]? = none := List.getElem?_eq_none (by rw [tb_len]; omega)
    rw [List.getD_eq_getElem?_getD, this]; decide
theorem Ws.of {l : List Int} (h : ∀ x ∈ l, (Lit.int .u64 x).wf = true) : Ws l := by
  intro i
  by_cases hi : i < l.length
  · have e : l.getD i 0 = l[i] := by simp [List.getD, hi]
    rw [e]
    have := bounds_u64 (h _ (List.getElem_mem hi))
    exact ⟨this.1, by omega⟩
  · have : l[i]? = none := List.getElem?_eq_none (by omega)
    rw [List.getD_eq_getElem?_getD, this]; decide
theorem wsucc (i : Nat) (h : i < 4611686018427387904) : wrap64 ((i : Int) + 1) = ((i + 1 : Nat) : Int) := by rw [wrap_i _ (by omega) (by omega)]; rfl
theorem list_ext {a b : List Int} (hl : a.length = b.length) (h : ∀ i, i < a.length → a.getD i 0 = b.getD i 0) : a = b := by
  apply List.ext_getElem hl
  intro i h1 h2
  have := h i h1
  simpa [List.getD, h1, h2] using this
def fl (n i : Nat) (f : Nat → F) : List Int := tb i f ++ List.replicate (n - i) 0
theorem fl_zero (n : Nat) (f : Nat → F) : fl n 0 f = List.replicate n 0 := by simp [fl, tb_zero]
theorem fl_full (n : Nat) (f : Nat → F) : fl n n f = tb n f := by simp [fl]
theorem fl_len {n i : Nat} (f : Nat → F) (h : i ≤ n) : (fl n i f).length = n := by simp [fl, tb_len]; omega
theorem fl_set {n i : Nat} (f : Nat → F) (h : i < n) (x : Int) (hx : x = fv (f i)) : (fl n i f).set i x = fl n (i + 1) f := by
  unfold fl
  rw [List.set_append_right _ _ (by rw [tb_len]; omega), tb_len, Nat.sub_self, tb_succ, hx]
  obtain ⟨m, hm⟩ : ∃ m, n - i = m + 1 := ⟨n - i - 1, by omega⟩
  rw [hm, show n - (i + 1) = m by omega, List.replicate_succ, List.set_cons_zero]
  simp
theorem rDft_l1 (l : List Int) (hl : Ws l) (w : F) (out : List Int) (g : F) (j : Nat) (hlen : l.length ≤ 1048576) (ho : out.length ≤ 1048576) (r : List Int)
    (h : Ev (fun k => abacistref08_Dft.l0 k l (fv w) (out ++ [fv (sm l.length fun i => el l i * pw g i)]) (fv (g * w)) (wrap64 ((j : Int) + 1))) r) (m : Nat) : ∀ i, i + m = l.length → Ev (fun k => abacistref08_Dft.l1 k l (fv w) out (fv g) (j : Int) (fv (sm i fun i => el l i * pw g i)) (fv (pw g i)) (i : Int)) r := by
  induction m with
  | zero =>
    intro i hi
    obtain rfl : i = l.length := by omega
    refine Ev.step (f := fun k => (abacistref02_Mul.f k (fv g) (fv w)).bind fun t => abacistref08_Dft.l0 k l (fv w) (out ++ [fv (sm l.length fun i => el l i * pw g i)]) t (wrap64 ((j : Int) + 1))) (fun k => ?_) (Ev.bind (rMulF g w) h)
    simp only [abacistref08_Dft.l1]
    rw [if_neg (by omega), if_pos (by omega)]
  | succ m ih =>
    intro i hi
    have hm := rMul (l.getD i 0) (fv (pw g i)) (hl i).1 (fv_w _)
    rw [fo_fv] at hm
    refine Ev.step (f := fun k => (abacistref02_Mul.f k (rd l (i : Int)) (fv (pw g i))).bind fun t => (abacistref02_Add.f (fv (sm i fun i => el l i * pw g i)) t).bind fun u => (abacistref02_Mul.f k (fv (pw g i)) (fv g)).bind fun v => abacistref08_Dft.l1 k l (fv w) out (fv g) (j : Int) u v (wrap64 ((i : Int) + 1))) (fun k => ?_) ?_
    · simp only [abacistref08_Dft.l1]
      rw [if_pos (by omega), if_pos (by omega)]
    · rw [rdn]
      refine Ev.bind hm (Ev.bind (Ev_eq (rAddF _ _)) (Ev.bind (rMulF _ _) ?_))
      rw [wsucc i (by omega)]
      exact ih (i + 1) (by omega)
theorem rDft_l0 (l : List Int) (hl : Ws l) (w : F) (hlen : l.length ≤ 1048576) (m : Nat) : ∀ j, j + m = l.length → Ev (fun k => abacistref08_Dft.l0 k l (fv w) (tb j (dft l.length w (el l))) (fv (pw w j)) (j : Int)) (tb l.length (dft l.length w (el l))) := by
  induction m with
  | zero =>
    intro j hj
    obtain rfl : j = l.length := by omega
    refine Ev.step (f := fun _ => some _) (fun k => ?_) (Ev.now _)
    simp only [abacistref08_Dft.l0]
    rw [if_neg (by omega)]
  | succ m ih =>
    intro j hj
    refine Ev.step (f := fun k => abacistref08_Dft.l1 k l (fv w) (tb j (dft l.length w (el l))) (fv (pw w j)) (j : Int) 0 1 0) (fun k => ?_) ?_
    · simp only [abacistref08_Dft.l0]
      rw [if_pos (by omega)]
    · have h1 := rDft_l1 l hl w (tb j (dft l.length w (el l))) (pw w j) j hlen (by rw [tb_len]; omega) (tb l.length (dft l.length w (el l))) ?_ l.length 0 (by omega)
      · exact h1
      · rw [wsucc j (by omega)]
        have := ih (j + 1) (by omega)
        rw [tb_succ] at this
        have e : dft l.length w (el l) j = sm l.length fun i => el l i * pw (pw w j) i := by
          unfold dft
          exact sm_congr fun i _ => by rw [← pw_mul']
        rw [e] at this
        exact this
theorem rDft (l : List Int) (hl : Ws l) (K : Nat) (hK : K ≤ 32) (d : Int) (hd : d = 0 ∨ d = 1) (hlen : l.length ≤ 1048576) : Ev (fun k => abacistref08_Dft.f k l (K : Int) d) (tb l.length (dft l.length (rut K d) (el l))) := by
  unfold abacistref08_Dft.f
  refine Ev.bind (r8Root K hK d hd) ?_
  exact rDft_l0 l hl (rut K d) hlen l.length 0 (by omega)
theorem rScale_l0 (l : List Int) (hl : Ws l) (a : Int) (ha : W64 a) (hlen : l.length ≤ 1048576) (m : Nat) : ∀ j, j + m = l.length → Ev (fun k => abacistref08_Scale.l0 k l a (tb j fun i => el l i * fo a) (j : Int)) (tb l.length fun i => el l i * fo a) := by
  induction m with
  | zero =>
    intro j hj
    obtain rfl : j = l.length := by omega
    refine Ev.step (f := fun _ => some _) (fun k => ?_) (Ev.now _)
    simp only [abacistref08_Scale.l0]
    rw [if_neg (by omega)]
  | succ m ih =>
    intro j hj
    refine Ev.step (f := fun k => (abacistref02_Mul.f k (rd l (j : Int)) a).bind fun t => abacistref08_Scale.l0 k l a ((tb j fun i => el l i * fo a) ++ [t]) (wrap64 ((j : Int) + 1))) (fun k => ?_) ?_
    · simp only [abacistref08_Scale.l0]
      rw [if_pos (by omega), if_pos (by omega)]
      congr 1
      funext t
      rw [if_pos (by rw [tb_len]; omega)]
    · rw [rdn]
      refine Ev.bind (rMul _ _ (hl j).1 ha) ?_
      rw [wsucc j (by omega)]
      have := ih (j + 1) (by omega)
      rw [tb_succ] at this
      exact this
theorem rScale (l : List Int) (hl : Ws l) (a : Int) (ha : W64 a) (hlen : l.length ≤ 1048576) : Ev (fun k => abacistref08_Scale.f k l a) (tb l.length fun i => el l i * fo a) := rScale_l0 l hl a ha hlen l.length 0 (by omega)
def tr (K : Nat) (d : Int) (f : Nat → F) (j : Nat) : F := dft (2 ^ K) (rut K d) f j * (if d = 1 then shf K else 1)
theorem tr_congr {K : Nat} {d : Int} {f g : Nat → F} (h : ∀ i, i < 2 ^ K → f i = g i) (j : Nat) : tr K d f j = tr K d g j := by unfold tr; rw [dft_congr h]
theorem rTransform (l : List Int) (hl : Ws l) (K : Nat) (hK : K ≤ 32) (d : Int) (hd : d = 0 ∨ d = 1) (hlen : l.length ≤ 1048576) (hk : l.length = 2 ^ K) : Ev (fun k => abacistref08_Transform.f k l (K : Int) d) (tb l.length (tr K d (el l))) := by
  unfold abacistref08_Transform.f
  refine Ev.bind (rDft l hl K hK d hd hlen) ?_
  rcases hd with rfl | rfl
  · refine Ev_ifn (by decide) ?_
    have e : tb l.length (tr K 0 (el l)) = tb l.length (dft l.length (rut K 0) (el l)) := tb_congr fun i _ => by
      unfold tr
      rw [if_neg (by decide), hk]; grobner
    rw [e]
    exact Ev.now _
  · refine Ev_if rfl (Ev.bind (rShare K hK) ?_)
    have := rScale (tb l.length (dft l.length (rut K 1) (el l))) (tb_ws _ _) (fv (shf K)) (fv_w _) (by rw [tb_len]; exact hlen)
    rw [tb_len, fo_fv] at this
    have e : (tb l.length fun i => el (tb l.length (dft l.length (rut K 1) (el l))) i * shf K) = tb l.length (tr K 1 (el l)) := tb_congr fun i hi => by
      unfold tr
      rw [el_tb _ hi, if_pos rfl, ← hk]
    rw [e] at this
    exact Ev.bind this (Ev.now _)
theorem gPowers_l0 (w : F) (n : Nat) (hn : n ≤ 1048576) (m : Nat) : ∀ j, j + m = n → Ev (fun k => root_Powers.l0 k (fv w) (fl n j (pw w)) (fv (pw w j)) (n : Int) (j : Int)) (tb n (pw w), 0) := by
  induction m with
  | zero =>
    intro j hj
    obtain rfl : j = n := by omega
    rw [fl_full]
    refine Ev.step (f := fun _ => some _) (fun k => ?_) (Ev.now _)
    simp only [root_Powers.l0]
    rw [if_neg (by omega)]
  | succ m ih =>
    intro j hj
    refine Ev.step (f := fun k => root_Powers.l0 k (fv w) (fl n (j + 1) (pw w)) (fv (pw w (j + 1))) (n : Int) ((j + 1 : Nat) : Int)) (fun k => ?_) (ih (j + 1) (by omega))
    simp only [root_Powers.l0]
    rw [if_pos (by omega), if_pos (by omega), if_pos (by rw [fl_len _ (by omega)]; omega), gMulF, Option.bind_some, Int.toNat_natCast, fl_set _ (by omega) _ rfl, wsucc j (by omega), pw_succ]
theorem gPowers (w : F) (n : Nat) (hn : n ≤ 1048576) : Ev (fun k => root_Powers.f k (fv w) (n : Int)) (tb n (pw w), 0) := by
  unfold root_Powers.f
  refine Ev_ifn (by omega) ?_
  rw [decide_eq_false (by omega)]
  refine Ev.step (f := fun k => root_Powers.l0 k (fv w) (List.replicate n 0) 1 (n : Int) 0) (fun k => ?_) ?_
  · simp only [root_Powers.j0]
    rw [if_neg (by decide), if_pos (by omega), if_pos (by rw [Int.toNat_natCast]; omega), Option.bind_some, Int.toNat_natCast, List.length_replicate]
  · have := gPowers_l0 w n hn n 0 (by omega)
    rw [fl_zero] at this
    exact this
theorem pow20 {k : Nat} (hk : k ≤ 20) : 2 ^ k ≤ 1048576 := by
  have h := pow_mono hk
  have e : (2 : Nat) ^ 20 = 1048576 := by decide
  omega
theorem gTable (K : Nat) (hK : K ≤ 20) (d : Int) (hd : d = 0 ∨ d = 1) : Ev (fun k => twid_Table.f k (K : Int) d) (tb (max (2 ^ K / 2) 1) (pw (rut K d)), 0) := by
  unfold twid_Table.f
  refine Ev.bind (gRoot K (by omega) d hd) (Ev_if rfl (Ev_ifn (by omega) ?_))
  have hp := pow20 hK
  have ew : IntKind.u64.wrap (K : Int) = (K : Int) := by rw [IntKind.wrap_u64]; omega
  have es := shl_one K (by omega)
  rw [ew] at es ⊢
  rw [es]
  refine Ev_if (by omega) ?_
  have em : mx (((2 ^ K : Nat) : Int) / 2) 1 = ((max (2 ^ K / 2) 1 : Nat) : Int) := by
    clear es
    generalize 2 ^ K = y at *
    unfold mx
    omega
  rw [em]
  exact Ev.bind (gPowers (rut K d) _ (by generalize 2 ^ K = y at *; omega)) (Ev.now _)
theorem gWhole_l0 (K : Nat) (h0 : 0 < K) (hK : K ≤ 20) (d : Int) (m : Nat) : ∀ j, j + m = 2 ^ (K - 1) → Ev (fun k => kern4_whole.l0 k (tb (2 ^ (K - 1) + j) (pw (rut K d))) (tb (2 ^ (K - 1)) (pw (rut K d))) ((2 ^ (K - 1) : Nat) : Int) (j : Int)) (tb (2 ^ K) (pw (rut K d))) := by
  have hp := pow20 (show K - 1 ≤ 20 by omega)
  have e2 : 2 ^ K = 2 ^ (K - 1) + 2 ^ (K - 1) := by rw [← Nat.two_mul, ← Nat.pow_succ']; congr 1; omega
  have hh := rd_half K d h0 (by omega)
  induction m with
  | zero =>
    intro j hj
    obtain rfl : j = 2 ^ (K - 1) := by omega
    rw [← e2]
    refine Ev.step (f := fun _ => some _) (fun k => ?_) (Ev.now _)
    simp only [kern4_whole.l0]
    rw [if_neg (by omega)]
  | succ m ih =>
    intro j hj
    refine Ev.step (f := fun k => kern4_whole.l0 k (tb (2 ^ (K - 1) + (j + 1)) (pw (rut K d))) (tb (2 ^ (K - 1)) (pw (rut K d))) ((2 ^ (K - 1) : Nat) : Int) ((j + 1 : Nat) : Int)) (fun k => ?_) (ih (j + 1) (by omega))
    simp only [kern4_whole.l0]
    have e3 : - pw (rut K d) j = pw (rut K d) (2 ^ (K - 1) + j) := by rw [pw_add, hh]; grobner
    rw [if_pos (by generalize 2 ^ (K - 1) = y at *; omega), if_pos (by omega), tb_len, if_pos (by generalize 2 ^ (K - 1) = y at *; omega), rdn, tb_get _ (by omega), gNeg _ (fv_w _), Option.bind_some, fo_fv, if_pos (by rw [tb_len]; omega), wsucc j (by omega), e3, ← Nat.add_assoc, tb_succ]
theorem gWhole (K : Nat) (hK : K ≤ 20) (d : Int) (hd : d = 0 ∨ d = 1) : Ev (fun k => kern4_whole.f k (K : Int) d) (tb (2 ^ K) (pw (rut K d))) := by
  unfold kern4_whole.f
  have hp := pow20 hK
  refine Ev.bind (gTable K hK d hd) (Ev.bind (Ev_eq rfl) (Ev_if (by
    show ([] : List Int).length + (tb _ _).length < _
    rw [tb_len, List.length_nil]; omega) (Ev.bind (Ev_eq rfl) ?_)))
  show Ev (fun k => if (K : Int) > 0 then kern4_whole.l0 k ([] ++ tb (max (2 ^ K / 2) 1) (pw (rut K d))) (tb (max (2 ^ K / 2) 1) (pw (rut K d))) (((tb (max (2 ^ K / 2) 1) (pw (rut K d))).length : Nat) : Int) 0 else some ([] ++ tb (max (2 ^ K / 2) 1) (pw (rut K d)))) _
  rw [List.nil_append, tb_len]
  by_cases h0 : K = 0
  · subst h0
    refine Ev_ifn (by omega) ?_
    exact Ev.now _
  · refine Ev_if (by omega) ?_
    have em : max (2 ^ K / 2) 1 = 2 ^ (K - 1) := by
      have e2 : 2 ^ K = 2 * 2 ^ (K - 1) := by rw [← Nat.pow_succ']; congr 1; omega
      have hq := Nat.two_pow_pos (K - 1)
      rw [e2, Nat.mul_div_cancel_left _ (by decide)]; omega
    rw [em]
    exact gWhole_l0 K (by omega) hK d (2 ^ (K - 1)) 0 (by omega)
theorem gUnit (d : Int) (hd : d = 0 ∨ d = 1) : Ev (fun k => kern4_Unit.f k d) (fv (rut 2 d), 0) := by
  unfold kern4_Unit.f
  exact Ev.bind (gRoot 2 (by decide) d hd) (Ev.now _)
end Go.Proofs.YtpnkcjnemoompaaDoor.Fft
end
