import Derived.Test.YtpnkcjnemoompaaGreatDoorPa7
import Derived.Test.YtpnkcjnemoompaaGreatDoorProg
import Derived.Below
import Derived.Deep.Draws
import Derived.Deep.AppendLies
import Derived.Maps.AppendAt
import Derived.OwnWalk
import Derived.Laws.BytesArg
import Derived.Laws.MakeOwn
import Derived.Laws.OwnMore
import Derived.Deep.OwnRows
import Derived.Tactics
import Derived.Lib.ConvBytes
import Derived.Laws.Slices
import Derived.WalkKit
import Derived.KernelRfl
import Derived.RowKit3
import Derived.Deep.LoopGhost
import Derived.Deep.QuietTactic
import Derived.BigQuiet
import Derived.WideLaws
import Derived.Deep.DeepCutAuto
import Derived.Deep.CutBlock
import Derived.Deep.RegionHeld3
import Derived.Laws.Rows
import Derived.Lib.AppendStr
import Derived.ArgAppend
import Derived.Laws.IdiomCopy
import Derived.OrdersHeld
import Derived.Laws.BitsLemmas
import Derived.RowKit
import Derived.Shelf.Spec.TrailingZeros
import Derived.Lib.LaidTab
import Derived.Lib.Hide
import Derived.Shelf.Strings.Builder1
import Derived.Shelf.Strings.Builder2
import Derived.Shelf.Strings.OnBuilder
import Derived.Shelf.Strings.BuilderF
import Derived.Shelf.Strings.BuilderK
import Derived.Shelf.Strings.Builder2Cap
import Derived.Shelf.Strconv.Itoa0
import Derived.Shelf.Strconv.Itoa1
import Derived.Shelf.LaysM
import Derived.Shelf.Strconv.Itoa2
import Derived.Shelf.Strconv.Itoa3
import Derived.Shelf.Bits.Mul64
import Derived.Shelf.Strings.BuilderCap
import Derived.Ground.SlgnProg
import Derived.Shelf.SlicesE.Clone
import Derived.Laws.StructEq
import Derived.Shelf.Spec.BitsCarry
import Derived.Laws.BitsAllLaws
import Derived.OpenShut
import Derived.Laws.CopyOwn
import Derived.StillTailTactics
import Derived.Outline
import Derived.RegionTactic
import Derived.ChangeAlike
import Derived.BigRegion
import Derived.Lib.ItoaLen
/-! Texts of this claim, joined: PPlanx2, PPlanx3, PFftx5, FftA, FftB, FldB, FldC, PlanB, PlanC, PlmA, PlmB, PlmC, PlmD, PlmE, PlmF, PlmG. -/
section
namespace Go.Proofs.YtpnkcjnemoompaaGreatDoor.PPlan
open Go.RowKit Go.Proofs.YtpnkcjnemoompaaGreatDoor.Ext Go.Proofs.YtpnkcjnemoompaaGreatDoorW.PrintWords Go.Proofs.YtpnkcjnemoompaaGreatDoorW.PrintLast Go.Proofs.YtpnkcjnemoompaaGreatDoorW.PrintMore
attribute [local go_sem] max2_int min2_int max_two min_two max_three min_three max_four min_four   -- for this text's walks alone
set_option linter.unusedVariables false
set_option linter.unusedSimpArgs false
def abacistref24_power.l0 : Nat → Int → Int → Int → Option (Int)
  | 0, _, _, _ => none
  | k + 1, x0, x3, x4 => if x4 < x0 then (abacistref24_power.l0 k x0 (wrap64 (2 * x3)) (wrap64 (x4 + 1))) else (some x3)
def abacistref24_power.f (k : Nat) (a0 : Int) : Option (Int) := abacistref24_power.l0 k a0 1 0
theorem abacistref24_power.mono_l : ∀ k, (∀ y0 y1 y2, LeO (abacistref24_power.l0 k y0 y1 y2) (abacistref24_power.l0 (k + 1) y0 y1 y2))
  | 0 => fun _ _ _ r h => by simp [abacistref24_power.l0] at h
  | k + 1 => by
    have ih0 := abacistref24_power.mono_l k
    · intro y0 y1 y2
      unfold abacistref24_power.l0
      repeat' first
      | (with_reducible exact ih0 _ _ _)
      | (with_reducible exact LeO.refl _)
      | (with_reducible exact LeO.none _)
      | (with_reducible refine LeO.ite ?_ ?_)
      | (with_reducible refine LeO.bind ?_ (fun _ => ?_))
      | exact ih0 _ _ _
      | exact LeO.none _
      | refine LeO.ite ?_ ?_
      | refine LeO.bind ?_ (fun _ => ?_)
theorem abacistref24_power.mono : ∀ a0 k, LeO (abacistref24_power.f k a0) (abacistref24_power.f (k + 1) a0) := by
  intro a0 k
  have ih0 := abacistref24_power.mono_l k
  unfold abacistref24_power.f
  repeat' first
      | (with_reducible exact ih0 _ _ _)
      | (with_reducible exact LeO.refl _)
      | (with_reducible exact LeO.none _)
      | (with_reducible refine LeO.ite ?_ ?_)
      | (with_reducible refine LeO.bind ?_ (fun _ => ?_))
      | exact ih0 _ _ _
      | exact LeO.none _
      | refine LeO.ite ?_ ?_
      | refine LeO.bind ?_ (fun _ => ?_)
set_option maxHeartbeats 8000000 in
set_option maxRecDepth 100000 in
theorem abacistref24_power.calls (k : Nat) (a0 : Int) (r : Int) (w : World) (h : abacistref24_power.f k a0 = some r) :
    Calls Tryz.prog 20 #[.int .i64 a0] w fun e w' => e = .returned (.int .i64 r) ∧ Drawn0 w w' := by
  have H : (abacistref24_power.l0 k a0 1 0) = some r := h
  clear h
  have H' := Aside0.mk H
  clear H
  go_enter Tryz.func20, Tryz.ntmps20
  go_wp2
  go_loopg [3, 4] k (fun kq v3 v4 w' => ∃ (x3_1 : Int) (x4_1 : Int), v3 = .int .i64 x3_1 ∧ v4 = .int .i64 x4_1 ∧ Aside0 (abacistref24_power.l0 kq a0 x3_1 x4_1 = some r) ∧ Aside0 (kq ≤ k) ∧ Drawn0 w w')
  case atStart => exact ⟨(1), (0), (by first | rfl | (simp; done) | (simp [*]; done)), (by first | rfl | (simp; done) | (simp [*]; done)), H', ⟨Nat.le_refl _⟩, by repeat (first | exact Drawn0.refl _ | apply Drawn0.step)⟩
  case round =>
    clear H'
    obtain ⟨x3_1, x4_1, rfl, rfl, HA, HK1, ⟨m1, rfl⟩⟩ := hrel
    cases gk with
    | zero => exact absurd HA.out (by simp [abacistref24_power.l0])
    | succ k1 =>
      have H := HA.out
      clear HA
      simp only [abacistref24_power.l0] at H
      by_cases c2 : x4_1 < a0
      · rw [if_pos c2] at H
        have c2b0 : decide (x4_1 < a0) = true := decide_eq_true c2
        clear c2
        have H' := Aside0.mk H
        clear H
        go_wp2
        go_roundg k1
        case measure => have := HK1.out; omega
        case rel => exact ⟨(wrap64 (2 * x3_1)), (wrap64 (x4_1 + 1)), (by first | rfl | (simp; done) | (simp [*]; done)), (by first | rfl | (simp; done) | (simp [*]; done)), H', ⟨by have := HK1.out; omega⟩, by repeat (first | exact Drawn0.refl _ | apply Drawn0.step)⟩
      · rw [if_neg c2] at H
        have c2b0 : decide (x4_1 < a0) = false := decide_eq_false c2
        clear c2
        obtain rfl := Option.some.inj H
        go_wp2
        go_ret
        exact ⟨by first | rfl | (simp; done) | (simp [*]; done), by repeat (first | exact Drawn0.refl _ | apply Drawn0.step)⟩
def abacistref24_Least.f (k : Nat) (a0 : Int) (a1 : Int) : Option (Int) := (abacistref24_power.f k (wrap64 (Int.tdiv (wrap64 (a0 + 1)) 2))).bind fun t203 => (some (wrap64 ((wrap64 (2 * t203)) + a1)))
set_option maxHeartbeats 8000000 in
set_option maxRecDepth 100000 in
theorem abacistref24_Least.calls (k : Nat) (a0 : Int) (a1 : Int) (r : Int) (w : World) (h : abacistref24_Least.f k a0 a1 = some r) :
    Calls Tryz.prog 8 #[.int .i64 a0, .int .i64 a1] w fun e w' => e = .returned (.int .i64 r) ∧ Drawn0 w w' := by
  have H : ((abacistref24_power.f k (wrap64 (Int.tdiv (wrap64 (a0 + 1)) 2))).bind fun t203 => (some (wrap64 ((wrap64 (2 * t203)) + a1)))) = some r := h
  clear h
  replace H := Option.bind_eq_some_iff.mp H
  obtain ⟨t203, A30, H⟩ := H
  replace H : (some (wrap64 ((wrap64 (2 * t203)) + a1))) = some r := H
  have A3 := Aside0.mk A30
  clear A30
  obtain rfl := Option.some.inj H
  go_enter Tryz.func8, Tryz.ntmps8
  go_wp2_with (first | ((with_reducible refine gate_callee (f := 20) rfl ?_); refine goesL_ (some 8) rfl rfl Tryz.func20 (by kernel_rfl) rfl #[.int .i64 (wrap64 (Int.tdiv (wrap64 (a0 + 1)) 2))] rfl (by (try simp only [List.map_toArray, List.map_cons, List.map_nil]); first | done | rfl | (simp only [List.length_drop, List.length_take]; rfl)) ?_; (with_reducible refine (abacistref24_power.calls k (wrap64 (Int.tdiv (wrap64 (a0 + 1)) 2)) t203 _ A3.out).mono ?_); rintro e w' ⟨rfl, ⟨nd, rfl⟩⟩; refine ⟨_, rfl, ?_⟩))
  go_ret
  exact ⟨by first | rfl | (simp; done) | (simp [*]; done), by repeat (first | exact Drawn0.refl _ | apply Drawn0.step)⟩
end Go.Proofs.YtpnkcjnemoompaaGreatDoor.PPlan
end
section
namespace Go.Proofs.YtpnkcjnemoompaaGreatDoor.PPlan
open Go.RowKit Go.Proofs.YtpnkcjnemoompaaGreatDoor.Ext Go.Proofs.YtpnkcjnemoompaaGreatDoorW.PrintWords Go.Proofs.YtpnkcjnemoompaaGreatDoorW.PrintLast Go.Proofs.YtpnkcjnemoompaaGreatDoorW.PrintMore
attribute [local go_sem] max2_int min2_int max_two min_two max_three min_three max_four min_four   -- for this text's walks alone
set_option linter.unusedVariables false
set_option linter.unusedSimpArgs false
theorem abacistref02_Mul.mono_l : ∀ k, (∀ y0 y1 y2, LeO (abacistref02_Mul.l0 k y0 y1 y2) (abacistref02_Mul.l0 (k + 1) y0 y1 y2))
  | 0 => fun _ _ _ r h => by simp [abacistref02_Mul.l0] at h
  | k + 1 => by
    have ih0 := abacistref02_Mul.mono_l k
    · intro y0 y1 y2
      unfold abacistref02_Mul.l0
      repeat' first
      | (with_reducible exact ih0 _ _ _)
      | (with_reducible exact LeO.refl _)
      | (with_reducible exact LeO.none _)
      | (with_reducible refine LeO.ite ?_ ?_)
      | (with_reducible refine LeO.bind ?_ (fun _ => ?_))
      | exact ih0 _ _ _
      | exact LeO.none _
      | refine LeO.ite ?_ ?_
      | refine LeO.bind ?_ (fun _ => ?_)
theorem abacistref02_Mul.mono : ∀ a0 a1 k, LeO (abacistref02_Mul.f k a0 a1) (abacistref02_Mul.f (k + 1) a0 a1) := by
  intro a0 a1 k
  have ih0 := abacistref02_Mul.mono_l k
  unfold abacistref02_Mul.f
  repeat' first
      | (with_reducible exact ih0 _ _ _)
      | (with_reducible exact LeO.refl _)
      | (with_reducible exact LeO.none _)
      | (with_reducible refine LeO.ite ?_ ?_)
      | (with_reducible refine LeO.bind ?_ (fun _ => ?_))
      | exact ih0 _ _ _
      | exact LeO.none _
      | refine LeO.ite ?_ ?_
      | refine LeO.bind ?_ (fun _ => ?_)
theorem abacistref02_Pow.mono_l : ∀ k, (∀ y0 y1 y2, LeO (abacistref02_Pow.l0 k y0 y1 y2) (abacistref02_Pow.l0 (k + 1) y0 y1 y2))
  | 0 => fun _ _ _ r h => by simp [abacistref02_Pow.l0] at h
  | k + 1 => by
    have ih0 := abacistref02_Pow.mono_l k
    · intro y0 y1 y2
      unfold abacistref02_Pow.l0
      repeat' first
      | (with_reducible exact ih0 _ _ _)
      | (with_reducible exact abacistref02_Mul.mono _ _ _)
      | (with_reducible exact LeO.refl _)
      | (with_reducible exact LeO.none _)
      | (with_reducible refine LeO.ite ?_ ?_)
      | (with_reducible refine LeO.bind ?_ (fun _ => ?_))
      | exact ih0 _ _ _
      | exact abacistref02_Mul.mono _ _ _
      | exact LeO.none _
      | refine LeO.ite ?_ ?_
      | refine LeO.bind ?_ (fun _ => ?_)
theorem abacistref02_Pow.mono : ∀ a0 a1 k, LeO (abacistref02_Pow.f k a0 a1) (abacistref02_Pow.f (k + 1) a0 a1) := by
  intro a0 a1 k
  have ih0 := abacistref02_Pow.mono_l k
  unfold abacistref02_Pow.f
  repeat' first
      | (with_reducible exact ih0 _ _ _)
      | (with_reducible exact abacistref02_Mul.mono _ _ _)
      | (with_reducible exact LeO.refl _)
      | (with_reducible exact LeO.none _)
      | (with_reducible refine LeO.ite ?_ ?_)
      | (with_reducible refine LeO.bind ?_ (fun _ => ?_))
      | exact ih0 _ _ _
      | exact abacistref02_Mul.mono _ _ _
      | exact LeO.none _
      | refine LeO.ite ?_ ?_
      | refine LeO.bind ?_ (fun _ => ?_)
theorem abacistref08_Share.mono : ∀ a0 k, LeO (abacistref08_Share.f k a0) (abacistref08_Share.f (k + 1) a0) := by
  intro a0 k
  unfold abacistref08_Share.f
  repeat' first
      | (with_reducible exact abacistref02_Pow.mono _ _ _)
      | (with_reducible exact LeO.refl _)
      | (with_reducible exact LeO.none _)
      | (with_reducible refine LeO.ite ?_ ?_)
      | (with_reducible refine LeO.bind ?_ (fun _ => ?_))
      | exact abacistref02_Pow.mono _ _ _
      | exact LeO.none _
      | refine LeO.ite ?_ ?_
      | refine LeO.bind ?_ (fun _ => ?_)
set_option maxHeartbeats 8000000 in
set_option maxRecDepth 100000 in
theorem abacistref08_Share.calls (k : Nat) (a0 : Int) (r : Int) (w : World) (h : abacistref08_Share.f k a0 = some r) :
    Calls Tryz.prog 27 #[.int .i64 a0] w fun e w' => e = .returned (.int .u64 r) ∧ Drawn0 w w' := by
  have H : ((abacistref02_Pow.f k 9223372034707292161 (IntKind.u64.wrap (a0))).bind fun t214 => (some t214)) = some r := h
  clear h
  replace H := Option.bind_eq_some_iff.mp H
  obtain ⟨t214, A20, H⟩ := H
  replace H : (some t214) = some r := H
  have A2 := Aside0.mk A20
  clear A20
  obtain rfl := Option.some.inj H
  go_enter Tryz.func27, Tryz.ntmps27
  go_wp2_with (first | ((with_reducible refine gate_callee (f := 48) rfl ?_); refine goesL_ (some 5) rfl rfl Tryz.func48 (by kernel_rfl) rfl #[.int .u64 9223372034707292161, .int .u64 (IntKind.u64.wrap (a0))] rfl (by (try simp only [List.map_toArray, List.map_cons, List.map_nil]); first | done | rfl | (simp only [List.length_drop, List.length_take]; rfl)) ?_; (with_reducible refine (abacistref02_Pow.calls k 9223372034707292161 (IntKind.u64.wrap (a0)) t214 _ A2.out).mono ?_); rintro e w' ⟨rfl, ⟨nd, rfl⟩⟩; refine ⟨_, rfl, ?_⟩))
  go_ret
  exact ⟨by first | rfl | (simp; done) | (simp [*]; done), by repeat (first | exact Drawn0.refl _ | apply Drawn0.step)⟩
end Go.Proofs.YtpnkcjnemoompaaGreatDoor.PPlan
end
section
namespace Go.Proofs.YtpnkcjnemoompaaGreatDoor.PFft
open Go.RowKit Go.Proofs.YtpnkcjnemoompaaGreatDoor.Ext Go.Proofs.YtpnkcjnemoompaaGreatDoor.PPlan Go.Proofs.YtpnkcjnemoompaaGreatDoorW.PrintWords Go.Proofs.YtpnkcjnemoompaaGreatDoorW.PrintLast Go.Proofs.YtpnkcjnemoompaaGreatDoorW.PrintMore
attribute [local go_sem] max2_int min2_int max_two min_two max_three min_three max_four min_four   -- for this text's walks alone
set_option linter.unusedVariables false
set_option linter.unusedSimpArgs false
def abacistref08_Scale.l0 : Nat → List Int → Int → List Int → Int → Option (List Int)
  | 0, _, _, _, _ => none
  | k + 1, x0, x1, x5, x6 => if x6 < (x0.length : Int) then (if 0 ≤ x6 then ((abacistref02_Mul.f k (rd x0 x6) x1).bind fun t211 => (if x5.length < 17592186044416 then (abacistref08_Scale.l0 k x0 x1 (x5 ++ [t211]) (wrap64 (x6 + 1))) else (none))) else (none)) else (some x5)
def abacistref08_Scale.f (k : Nat) (l0 : List Int) (a1 : Int) : Option (List Int) := abacistref08_Scale.l0 k l0 a1 ([] : List Int) 0
set_option maxHeartbeats 8000000 in
set_option maxRecDepth 100000 in
theorem abacistref08_Scale.calls (k : Nat) (A0 : Option Addr) (c0 : Nat) (l0 : List Int) (a1 : Int) (r : List Int) (w : World) (hr0 : Kd.C (Kd.int .u64) w A0 l0.length l0) (hc0 : l0.length ≤ c0) (h : abacistref08_Scale.f k l0 a1 = some r) :
    Calls Tryz.prog 26 #[.slice A0 l0.length c0, .int .u64 a1] w fun e w' => ∃ v0_ : Value, e = .returned (v0_) ∧ Kd.R (Kd.int .u64) 33 w' w.heap.size (fun _ => True) v0_ r ∧ Below w.heap.size w w' := by
  have HR0 := Aside0.mk hr0
  have HC0 := Aside0.mk hc0
  clear hr0 hc0
  have HB := Aside0.mk (Below.refl w.heap.size w)
  have H : (abacistref08_Scale.l0 k l0 a1 ([] : List Int) 0) = some r := h
  clear h
  have H' := Aside0.mk H
  clear H
  go_enter Tryz.func26, Tryz.ntmps26
  go_wp2
  go_loopg [5, 6] k (fun kq v5 v6 w' => ∃ (x5_1 : List Int) (x6_1 : Int), v6 = .int .i64 x6_1 ∧ Aside0 (abacistref08_Scale.l0 kq l0 a1 x5_1 x6_1 = some r) ∧ Aside0 (kq ≤ k) ∧ Aside0 (Kd.R (Kd.int .u64) 33 w' w.heap.size (fun _ => True) v5 x5_1) ∧ Aside0 (Below w.heap.size w w'))
  case atStart => exact ⟨(([] : List Int)), (0), (by first | rfl | (simp; done) | (simp [*]; done)), H', ⟨Nat.le_refl _⟩, ⟨by first | exact Kd.R_nil _ _ _ _ _ | exact Kd.N_nil _ _ _ _ _ | exact Kd.V_nil _ _ _ _ _ | exact Kd.Q_nil _ _ _ _ _ | exact Kd.S_nil _ _ _ _ _⟩, ⟨by repeat (first | (with_reducible first | exact HB.out | apply below_alloc | apply pw_below_drewN | apply below_drew1) | exact HB.out)⟩⟩
  case round =>
    clear H'
    try clear c2
    try clear p2
    obtain ⟨x5_1, x6_1, rfl, HA, HK1, HO_5, HB⟩ := hrel
    cases gk with
    | zero => exact absurd HA.out (by simp [abacistref08_Scale.l0])
    | succ k1 =>
      have H := HA.out
      clear HA
      simp only [abacistref08_Scale.l0] at H
      by_cases c3 : x6_1 < (l0.length : Int)
      · rw [if_pos c3] at H
        have c3b0 : decide (x6_1 < (l0.length : Int)) = true := decide_eq_true c3
        clear c3
        by_cases c4 : 0 ≤ x6_1
        · rw [if_pos c4] at H
          have c4b0 : decide (0 ≤ x6_1) = true := decide_eq_true c4
          clear c4
          replace H := Option.bind_eq_some_iff.mp H
          obtain ⟨t211, A50, H⟩ := H
          replace H : (if x5_1.length < 17592186044416 then (abacistref08_Scale.l0 k1 l0 a1 (x5_1 ++ [t211]) (wrap64 (x6_1 + 1))) else (none)) = some r := H
          have A5 := Aside0.mk A50
          clear A50
          by_cases c6 : x5_1.length < 17592186044416
          · rw [if_pos c6] at H
            have LMc6 := Aside0.mk c6
            clear c6
            obtain ⟨y212, hy212⟩ : ∃ y_ : List Int, y_ = (x5_1 ++ [t211]) := ⟨_, rfl⟩
            replace H : (abacistref08_Scale.l0 k1 l0 a1 y212 (wrap64 (x6_1 + 1))) = some r := by first | (rw [hy212]; with_reducible exact H) | (have H2_ := (Option.bind_some _ _).symm.trans H; rw [hy212]; with_reducible exact H2_) | (have H2_ := (Option.bind_some _ _).symm.trans H; with_reducible exact H2_) | with_reducible exact H | (rw [hy212]; exact H) | exact H
            have Ny212 := Aside0.mk hy212
            clear hy212
            have H' := Aside0.mk H
            clear H
            have p210 : 0 ≤ (x6_1 : Int) := of_decide_eq_true (by first | (with_reducible assumption) | assumption)
            have q210 : x6_1 < (l0.length : Int) := of_decide_eq_true (by first | (with_reducible assumption) | assumption)
            obtain ⟨ad210, e210, hx210_0⟩ := Kd.at_int HR0.out x6_1 p210 q210
            cases e210
            replace hx210_0 := (HB.out.cell (World.block_lt_of_cell? w _ hx210_0)).trans hx210_0
            replace p210 := eq_true p210
            replace q210 := eq_true q210
            go_wp2_with (first | ((with_reducible refine gate_callee (f := 47) rfl ?_); refine goesL_ (some 19) rfl rfl Tryz.func47 (by kernel_rfl) rfl #[.int .u64 (rd l0 x6_1), .int .u64 a1] rfl (by (try simp only [List.map_toArray, List.map_cons, List.map_nil]); first | done | rfl | (simp only [List.length_drop, List.length_take]; rfl)) ?_; (with_reducible refine (abacistref02_Mul.calls k1 (rd l0 x6_1) a1 t211 _ A5.out).mono ?_); rintro e w' ⟨rfl, ⟨nd, rfl⟩⟩; refine ⟨_, rfl, ?_⟩) | ((with_reducible refine gate_builtin (b := .append) (xs := #[.tmp 13, .tmp 20]) rfl ?_); at_builtin; refine Kd.R_append (Kd.int .u64) (w0 := w) w.heap.size rfl (.tmp 13) (.tmp 20) 22 33 (.int .u64 0) 8 rfl Tryz.underlying22 info33 rfl (by decide) (by omega) u5 x5_1 t211 [.int .u64 t211] (fun _ => True) (fun _ => False) rfl rfl ?aP (fun _ hk => hk.elim) ?aF ?aO ?aB ?aS ?aL ?_; (case aP => exact rfl); (case aB => exact (by repeat (first | (with_reducible first | exact HB.out | apply below_alloc | apply pw_below_drewN | apply below_drew1) | exact HB.out))); (case aF => exact (fun _ _ => trivial)); (case aO => exact (by (with_reducible repeat (first | apply Kd.R_alloc | apply Kd.R_drewN | apply Kd.R_drew)); exact HO_5.out)); (case aS => exact (below_size (by repeat (first | (with_reducible first | exact HB.out | apply below_alloc | apply pw_below_drewN | apply below_drew1) | exact HB.out)))); (case aL => have := LMc6.out; omega); intro v213 w7 ho hb hg hat; rw [← Ny212.out] at ho; have n0_ := Aside0.mk (hb); have n1_ := Aside0.mk (ho); clear HB; clear HO_5; have HB := n0_; have HO214 := n1_; clear n0_ n1_; clear ho hb hg hat))
            go_roundg k1
            case measure => have := HK1.out; omega
            case rel => exact ⟨(y212), (wrap64 (x6_1 + 1)), (by first | rfl | (simp; done) | (simp [*]; done)), H', ⟨by have := HK1.out; omega⟩, ⟨by (with_reducible repeat (first | apply Kd.R_alloc | apply Kd.R_drewN | apply Kd.R_drew)); exact HO214.out⟩, ⟨by repeat (first | (with_reducible first | exact HB.out | apply below_alloc | apply pw_below_drewN | apply below_drew1) | exact HB.out)⟩⟩
          · rw [if_neg c6] at H
            exact absurd H (by simp)
        · rw [if_neg c4] at H
          exact absurd H (by simp)
      · rw [if_neg c3] at H
        have c3b0 : decide (x6_1 < (l0.length : Int)) = false := decide_eq_false c3
        clear c3
        obtain rfl := Option.some.inj H
        go_wp2
        go_ret
        exact ⟨_, by first | rfl | (simp [errW_none, errW_some] <;> rfl) | (simp [*, errW_none, errW_some] <;> rfl), by (with_reducible repeat (first | apply Kd.R_alloc | apply Kd.R_drewN | apply Kd.R_drew)); exact HO_5.out, by repeat (first | (with_reducible first | exact HB.out | apply below_alloc | apply pw_below_drewN | apply below_drew1) | exact HB.out)⟩
def abacistref08_Transform.f (k : Nat) (l0 : List Int) (a1 : Int) (a2 : Int) : Option (List Int) := (abacistref08_Dft.f k l0 a1 a2).bind fun t215 => (if a2 = 1 then ((abacistref08_Share.f k a1).bind fun t218 => ((abacistref08_Scale.f k t215 t218).bind fun t219 => (some t219))) else (some t215))
set_option maxHeartbeats 8000000 in
set_option maxRecDepth 100000 in
theorem abacistref08_Transform.calls (k : Nat) (A0 : Option Addr) (c0 : Nat) (l0 : List Int) (a1 : Int) (a2 : Int) (r : List Int) (w : World) (hr0 : Kd.C (Kd.int .u64) w A0 l0.length l0) (hc0 : l0.length ≤ c0) (h : abacistref08_Transform.f k l0 a1 a2 = some r) :
    Calls Tryz.prog 11 #[.slice A0 l0.length c0, .int .i64 a1, .int .i64 a2] w fun e w' => ∃ v0_ : Value, e = .returned (v0_) ∧ Kd.R (Kd.int .u64) 33 w' w.heap.size (fun _ => True) v0_ r ∧ Below w.heap.size w w' := by
  have HR0 := Aside0.mk hr0
  have HC0 := Aside0.mk hc0
  clear hr0 hc0
  have HB := Aside0.mk (Below.refl w.heap.size w)
  have H : ((abacistref08_Dft.f k l0 a1 a2).bind fun t215 => (if a2 = 1 then ((abacistref08_Share.f k a1).bind fun t218 => ((abacistref08_Scale.f k t215 t218).bind fun t219 => (some t219))) else (some t215))) = some r := h
  clear h
  replace H := Option.bind_eq_some_iff.mp H
  obtain ⟨t215, A40, H⟩ := H
  replace H : (if a2 = 1 then ((abacistref08_Share.f k a1).bind fun t218 => ((abacistref08_Scale.f k t215 t218).bind fun t219 => (some t219))) else (some t215)) = some r := H
  have A4 := Aside0.mk A40
  clear A40
  by_cases c5 : a2 = 1
  · rw [if_pos c5] at H
    have c5b0 : (a2 == 1) = true := beq_iff_eq.mpr c5
    have c5b1 : (a2 != 1) = false := bne_eq_false_iff_eq.mpr c5
    clear c5
    replace H := Option.bind_eq_some_iff.mp H
    obtain ⟨t218, A60, H⟩ := H
    replace H : ((abacistref08_Scale.f k t215 t218).bind fun t219 => (some t219)) = some r := H
    have A6 := Aside0.mk A60
    clear A60
    replace H := Option.bind_eq_some_iff.mp H
    obtain ⟨t219, A70, H⟩ := H
    replace H : (some t219) = some r := H
    have A7 := Aside0.mk A70
    clear A70
    obtain rfl := Option.some.inj H
    go_enter Tryz.func11, Tryz.ntmps11
    go_wp2_with (first | ((with_reducible refine gate_callee (f := 25) rfl ?_); refine goesL_ (some 11) rfl rfl Tryz.func25 (by kernel_rfl) rfl #[.slice A0 l0.length c0, .int .i64 a1, .int .i64 a2] rfl (by (try simp only [List.map_toArray, List.map_cons, List.map_nil]); first | done | rfl | (simp only [List.length_drop, List.length_take]; rfl)) ?_; (with_reducible refine (abacistref08_Dft.calls k _ _ l0 a1 a2 t215 _ ?side1 ?side2 A4.out).mono ?_); (case side1 => repeat (first | exact HR0.out | (with_reducible refine Kd.C_alloc ?_ _) | (with_reducible refine Kd.C_drewN ?_ _) | (with_reducible refine Kd.C_drew ?_))); (case side2 => exact HC0.out); rintro e w8 ⟨v216, rfl, ho0, hb⟩; refine ⟨_, rfl, ?_⟩; have n0_ := Aside0.mk (Kd.R_lower ho0 (below_size (by repeat (first | (with_reducible first | exact HB.out | apply below_alloc | apply pw_below_drewN | apply below_drew1) | exact HB.out)))); have n1_ := Aside0.mk (below_step (by repeat (first | (with_reducible first | exact HB.out | apply below_alloc | apply pw_below_drewN | apply below_drew1) | exact HB.out)) hb); clear HB; have HO217 := n0_; have HB := n1_; clear n0_ n1_; (try clear hb); (try clear hb2); (try clear hk); (try clear hi); (try clear ho0)) | ((with_reducible refine gate_callee (f := 27) rfl ?_); refine goesL_ (some 16) rfl rfl Tryz.func27 (by kernel_rfl) rfl #[.int .i64 a1] rfl (by (try simp only [List.map_toArray, List.map_cons, List.map_nil]); first | done | rfl | (simp only [List.length_drop, List.length_take]; rfl)) ?_; (with_reducible refine (abacistref08_Share.calls k a1 t218 _ A6.out).mono ?_); rintro e w' ⟨rfl, ⟨nd, rfl⟩⟩; refine ⟨_, rfl, ?_⟩; obtain ⟨Ao9, co9, eo9⟩ := Kd.R_slice HO217.out; subst eo9) | ((with_reducible refine gate_callee (f := 26) rfl ?_); refine goesL_ (some 17) rfl rfl Tryz.func26 (by kernel_rfl) rfl #[.slice Ao9 t215.length co9, .int .u64 t218] rfl (by (try simp only [List.map_toArray, List.map_cons, List.map_nil]); first | done | rfl | (simp only [List.length_drop, List.length_take]; rfl)) ?_; (with_reducible refine (abacistref08_Scale.calls k _ _ t215 t218 t219 _ ?side1 ?side2 A7.out).mono ?_); (case side1 => repeat (first | exact (Kd.R_reads' HO217.out).2.2 | (with_reducible refine Kd.C_alloc ?_ _) | (with_reducible refine Kd.C_drewN ?_ _) | (with_reducible refine Kd.C_drew ?_))); (case side2 => exact (Kd.R_reads' HO217.out).2.1); rintro e w10 ⟨v220, rfl, ho0, hb⟩; refine ⟨_, rfl, ?_⟩; have n0_ := Aside0.mk (Kd.R_elder' (by (with_reducible repeat (first | apply Kd.R_alloc | apply Kd.R_drewN | apply Kd.R_drew)); exact HO217.out) (Kd.R_base ho0) hb); have n1_ := Aside0.mk (Kd.R_lower (Kd.R_new' ho0 (Kd.R_lt (by (with_reducible repeat (first | apply Kd.R_alloc | apply Kd.R_drewN | apply Kd.R_drew)); exact HO217.out))) (below_size (by repeat (first | (with_reducible first | exact HB.out | apply below_alloc | apply pw_below_drewN | apply below_drew1) | exact HB.out)))); have n2_ := Aside0.mk (below_step (by repeat (first | (with_reducible first | exact HB.out | apply below_alloc | apply pw_below_drewN | apply below_drew1) | exact HB.out)) hb); clear HO217; clear HB; have HO217 := n0_; have HO221 := n1_; have HB := n2_; clear n0_ n1_ n2_; (try clear hb); (try clear hb2); (try clear hk); (try clear hi); (try clear ho0)))
    go_ret
    exact ⟨_, by first | rfl | (simp [errW_none, errW_some] <;> rfl) | (simp [*, errW_none, errW_some] <;> rfl), by (with_reducible repeat (first | apply Kd.R_alloc | apply Kd.R_drewN | apply Kd.R_drew)); exact Kd.R_mono HO221.out (fun _ hk => trivial), by repeat (first | (with_reducible first | exact HB.out | apply below_alloc | apply pw_below_drewN | apply below_drew1) | exact HB.out)⟩
  · rw [if_neg c5] at H
    have c5b0 : (a2 == 1) = false := beq_eq_false_iff_ne.mpr c5
    have c5b1 : (a2 != 1) = true := bne_iff_ne.mpr c5
    obtain rfl := Option.some.inj H
    go_enter Tryz.func11, Tryz.ntmps11
    go_wp2_with (first | ((with_reducible refine gate_callee (f := 25) rfl ?_); refine goesL_ (some 11) rfl rfl Tryz.func25 (by kernel_rfl) rfl #[.slice A0 l0.length c0, .int .i64 a1, .int .i64 a2] rfl (by (try simp only [List.map_toArray, List.map_cons, List.map_nil]); first | done | rfl | (simp only [List.length_drop, List.length_take]; rfl)) ?_; (with_reducible refine (abacistref08_Dft.calls k _ _ l0 a1 a2 t215 _ ?side1 ?side2 A4.out).mono ?_); (case side1 => repeat (first | exact HR0.out | (with_reducible refine Kd.C_alloc ?_ _) | (with_reducible refine Kd.C_drewN ?_ _) | (with_reducible refine Kd.C_drew ?_))); (case side2 => exact HC0.out); rintro e w11 ⟨v216, rfl, ho0, hb⟩; refine ⟨_, rfl, ?_⟩; have n0_ := Aside0.mk (Kd.R_lower ho0 (below_size (by repeat (first | (with_reducible first | exact HB.out | apply below_alloc | apply pw_below_drewN | apply below_drew1) | exact HB.out)))); have n1_ := Aside0.mk (below_step (by repeat (first | (with_reducible first | exact HB.out | apply below_alloc | apply pw_below_drewN | apply below_drew1) | exact HB.out)) hb); clear HB; have HO217 := n0_; have HB := n1_; clear n0_ n1_; (try clear hb); (try clear hb2); (try clear hk); (try clear hi); (try clear ho0)))
    go_ret
    exact ⟨_, by first | rfl | (simp [errW_none, errW_some] <;> rfl) | (simp [*, errW_none, errW_some] <;> rfl), by (with_reducible repeat (first | apply Kd.R_alloc | apply Kd.R_drewN | apply Kd.R_drew)); exact HO217.out, by repeat (first | (with_reducible first | exact HB.out | apply below_alloc | apply pw_below_drewN | apply below_drew1) | exact HB.out)⟩
end Go.Proofs.YtpnkcjnemoompaaGreatDoor.PFft
end
section
namespace Go.Proofs.YtpnkcjnemoompaaGreatDoor.Fft
set_option linter.unusedVariables false
set_option linter.unusedSimpArgs false
theorem sm_mulr (n : Nat) (f : Nat → F) (c : F) : sm n (fun i => f i * c) = sm n f * c := by
  induction n with
  | zero => rw [sm_zero, sm_zero]; grobner
  | succ n ih => rw [sm_succ, sm_succ, ih]; grobner
end Go.Proofs.YtpnkcjnemoompaaGreatDoor.Fft
end
section
namespace Go.Proofs.YtpnkcjnemoompaaGreatDoor.Fft
set_option linter.unusedVariables false
set_option linter.unusedSimpArgs false
theorem rd_zero (d : Int) : rut 0 d = 1 := by
  unfold rut
  split
  · exact rt_zero
  · rfl
theorem rd_full (k : Nat) (d : Int) (hk : k ≤ 32) : pw (rut k d) (2 ^ k) = 1 := by rw [rd_pow k k d (Nat.le_refl _) hk, Nat.sub_self, rd_zero]
theorem six_steps (R C : Nat) (w : F) (hw : pw w (R * C) = 1) (f : Nat → F) (r' c' : Nat) :
    dft (R * C) w f (c' * R + r') = dft C (pw w R) (fun c => dft R (pw w C) (fun r => f (r * C + c)) r' * pw w (r' * c)) c' := by
  unfold dft
  rw [sm_rows, sm_swap]
  refine sm_congr fun c _ => ?_
  simp only []
  rw [← sm_mulr, ← sm_mulr]
  refine sm_congr fun r _ => ?_
  rw [← pw_mul, ← pw_mul, show (r * C + c) * (c' * R + r') = (r * c') * (R * C) + (C * (r * r') + (r' * c + R * (c * c'))) by
    simp only [Nat.add_mul, Nat.mul_add]
    have e1 : r * C * (c' * R) = r * c' * (R * C) := by simp only [Nat.mul_left_comm, Nat.mul_comm]
    have e2 : r * C * r' = C * (r * r') := by simp only [Nat.mul_left_comm, Nat.mul_comm]
    have e3 : c * (c' * R) = R * (c * c') := by simp only [Nat.mul_left_comm, Nat.mul_comm]
    have e4 : c * r' = r' * c := Nat.mul_comm _ _
    omega, pw_red hw, pw_add, pw_add]
  grobner
end Go.Proofs.YtpnkcjnemoompaaGreatDoor.Fft
end
section
set_option linter.unusedVariables false
set_option linter.unusedSimpArgs false
namespace Go.Proofs.YtpnkcjnemoompaaGreatDoor.Fft
open Go.RowKit Go.Proofs.YtpnkcjnemoompaaGreatDoor Go.Proofs.YtpnkcjnemoompaaGreatDoor.Pure Go.Proofs.YtpnkcjnemoompaaGreatDoor.PPlan Go.Proofs.YtpnkcjnemoompaaGreatDoor.PFft Go.Proofs.YtpnkcjnemoompaaGreatDoor.Ext Go.Proofs.YtpnkcjnemoompaaGreatDoorW.PrintWords Go.Proofs.YtpnkcjnemoompaaGreatDoorW.PrintLast Go.Proofs.YtpnkcjnemoompaaGreatDoorW.PrintMore
theorem rShare (k : Nat) (hk : k ≤ 32) : Ev (fun n => abacistref08_Share.f n (k : Int)) (fv (shf k)) := by
  unfold abacistref08_Share.f
  have ew : IntKind.u64.wrap (k : Int) = (k : Int) := by rw [IntKind.wrap_u64]; omega
  rw [ew]
  refine Ev.bind (rPow 9223372034707292161 (k : Int) (by decide) (by omega)) ?_
  rw [Int.toNat_natCast]
  exact Ev.now _
end Go.Proofs.YtpnkcjnemoompaaGreatDoor.Fft
end
section
set_option linter.unusedVariables false
set_option linter.unusedSimpArgs false
namespace Go.Proofs.YtpnkcjnemoompaaGreatDoor.Fft
open Go.RowKit Go.Proofs.YtpnkcjnemoompaaGreatDoor Go.Proofs.YtpnkcjnemoompaaGreatDoor.Pure Go.Proofs.YtpnkcjnemoompaaGreatDoor.PPlan Go.Proofs.YtpnkcjnemoompaaGreatDoor.PFft Go.Proofs.YtpnkcjnemoompaaGreatDoor.Ext Go.Proofs.YtpnkcjnemoompaaGreatDoorW.PrintWords Go.Proofs.YtpnkcjnemoompaaGreatDoorW.PrintLast Go.Proofs.YtpnkcjnemoompaaGreatDoorW.PrintMore
theorem rScale_l0 (l : List Int) (hl : Ws l) (a : Int) (ha : W64 a) (hlen : l.length ≤ 1048576) (m : Nat) : ∀ j, j + m = l.length → Ev (fun k => abacistref08_Scale.l0 k l a (tb j fun i => el l i * fo a) (j : Int)) (tb l.length fun i => el l i * fo a) := by
  induction m with
  | zero =>
    intro j hj
    obtain rfl : j = l.length := by omega
    refine Ev.step (f := fun _ => some _) (fun k => ?_) (Ev.now _)
    simp only [abacistref08_Scale.l0]
    rw [if_neg (by omega)]
  | succ m ih =>
    intro j hj
    refine Ev.step (f := fun k => (abacistref02_Mul.f k (rd l (j : Int)) a).bind fun t => abacistref08_Scale.l0 k l a ((tb j fun i => el l i * fo a) ++ [t]) (wrap64 ((j : Int) + 1))) (fun k => ?_) ?_
    · simp only [abacistref08_Scale.l0]
      rw [if_pos (by omega), if_pos (by omega)]
      congr 1
      funext t
      rw [if_pos (by rw [tb_len]; omega)]
    · rw [rdn]
      refine Ev.bind (rMul _ _ (hl j).1 ha) ?_
      rw [wsucc j (by omega)]
      have := ih (j + 1) (by omega)
      rw [tb_succ] at this
      exact this
theorem rScale (l : List Int) (hl : Ws l) (a : Int) (ha : W64 a) (hlen : l.length ≤ 1048576) : Ev (fun k => abacistref08_Scale.f k l a) (tb l.length fun i => el l i * fo a) := rScale_l0 l hl a ha hlen l.length 0 (by omega)
theorem rTransform (l : List Int) (hl : Ws l) (K : Nat) (hK : K ≤ 32) (d : Int) (hd : d = 0 ∨ d = 1) (hlen : l.length ≤ 1048576) (hk : l.length = 2 ^ K) : Ev (fun k => abacistref08_Transform.f k l (K : Int) d) (tb l.length (tr K d (el l))) := by
  unfold abacistref08_Transform.f
  refine Ev.bind (rDft l hl K hK d hd hlen) ?_
  rcases hd with rfl | rfl
  · refine Ev_ifn (by decide) ?_
    have e : tb l.length (tr K 0 (el l)) = tb l.length (dft l.length (rut K 0) (el l)) := tb_congr fun i _ => by
      unfold tr
      rw [if_neg (by decide), hk]; grobner
    rw [e]
    exact Ev.now _
  · refine Ev_if rfl (Ev.bind (rShare K hK) ?_)
    have := rScale (tb l.length (dft l.length (rut K 1) (el l))) (tb_ws _ _) (fv (shf K)) (fv_w _) (by rw [tb_len]; exact hlen)
    rw [tb_len, fo_fv] at this
    have e : (tb l.length fun i => el (tb l.length (dft l.length (rut K 1) (el l))) i * shf K) = tb l.length (tr K 1 (el l)) := tb_congr fun i hi => by
      unfold tr
      rw [el_tb _ hi, if_pos rfl, ← hk]
    rw [e] at this
    exact Ev.bind this (Ev.now _)
end Go.Proofs.YtpnkcjnemoompaaGreatDoor.Fft
end
section
namespace Go.Proofs.YtpnkcjnemoompaaGreatDoor.Plan
open Go.RowKit Go.Proofs.YtpnkcjnemoompaaGreatDoor Go.Proofs.YtpnkcjnemoompaaGreatDoor.Ext Go.Proofs.YtpnkcjnemoompaaGreatDoor.PPlan Go.Proofs.YtpnkcjnemoompaaGreatDoor.Pure Go.Proofs.YtpnkcjnemoompaaGreatDoorW.PrintWords Go.Proofs.YtpnkcjnemoompaaGreatDoorW.PrintLast Go.Proofs.YtpnkcjnemoompaaGreatDoorW.PrintMore
set_option linter.unusedVariables false
set_option linter.unusedSimpArgs false
set_option maxRecDepth 100000
theorem powers : ∀ k : Fin 33, abacistref24_power.f 80 (k.val : Int) = some ((2 ^ k.val : Nat) : Int) := of_decide_eq_true (by kernel_rfl)
end Go.Proofs.YtpnkcjnemoompaaGreatDoor.Plan
end
section
namespace Go.Proofs.YtpnkcjnemoompaaGreatDoor.Plan
open Go.RowKit Go.Proofs.YtpnkcjnemoompaaGreatDoor Go.Proofs.YtpnkcjnemoompaaGreatDoor.Ext Go.Proofs.YtpnkcjnemoompaaGreatDoor.PPlan Go.Proofs.YtpnkcjnemoompaaGreatDoor.Pure Go.Proofs.YtpnkcjnemoompaaGreatDoorW.PrintWords Go.Proofs.YtpnkcjnemoompaaGreatDoorW.PrintLast Go.Proofs.YtpnkcjnemoompaaGreatDoorW.PrintMore
set_option linter.unusedVariables false
set_option linter.unusedSimpArgs false
set_option maxRecDepth 100000
theorem power_is (k : Nat) (hk : k ≤ 32) : Ev (fun n => abacistref24_power.f n (k : Int)) ((2 ^ k : Nat) : Int) := Ev.of (fun n => abacistref24_power.mono _ n) (powers ⟨k, by omega⟩)
theorem share2 (k : Nat) (hk : k ≤ 32) : Ev (fun n => abacistref08_Share.f n (k : Int)) (shr1 k) := by
  refine Ev.of (k := 80) (fun n => abacistref08_Share.mono _ n) ?_
  have h := shares ⟨k, by omega⟩
  simp only at h
  rw [← h.1]
  unfold shr1
  obtain ⟨x, hx⟩ := Option.isSome_iff_exists.1 h.2
  rw [hx]; rfl
theorem Least2 (k : Nat) (hk : k ≤ 32) (per : Nat) (hp : per ≤ 512) : Ev (fun n => abacistref24_Least.f n (k : Int) (per : Int)) ((2 * 2 ^ ((k + 1) / 2) + per : Nat) : Int) := by
  have h1 := (half_all ⟨k, by omega⟩).1
  simp only at h1
  unfold abacistref24_Least.f
  rw [h1]
  refine Ev.bind (power_is _ (by omega)) (Ev_eq ?_)
  have := pow_lt (k := (k + 1) / 2) (by omega)
  rw [show (2 : Int) * ((2 ^ ((k + 1) / 2) : Nat) : Int) = ((2 * 2 ^ ((k + 1) / 2) : Nat) : Int) by rw [Int.natCast_mul]; rfl, wrap_is _ (by omega), ← Int.natCast_add, wrap_is _ (by omega)]
end Go.Proofs.YtpnkcjnemoompaaGreatDoor.Plan
end
section
namespace Go.Proofs.YtpnkcjnemoompaaGreatDoor.Kern
open Go.RowKit Go.Proofs.YtpnkcjnemoompaaGreatDoor.Plan Go.Proofs.YtpnkcjnemoompaaGreatDoor Go.Proofs.YtpnkcjnemoompaaGreatDoor.Ext Go.Proofs.YtpnkcjnemoompaaGreatDoor.PPlan Go.Proofs.YtpnkcjnemoompaaGreatDoor.PFft Go.Proofs.YtpnkcjnemoompaaGreatDoor.Pure Go.Proofs.YtpnkcjnemoompaaGreatDoor.Obj Go.Proofs.YtpnkcjnemoompaaGreatDoor.Fft Go.Proofs.YtpnkcjnemoompaaGreatDoorW.PrintWords Go.Proofs.YtpnkcjnemoompaaGreatDoorW.PrintLast Go.Proofs.YtpnkcjnemoompaaGreatDoorW.PrintMore
set_option linter.unusedVariables false
set_option linter.unusedSimpArgs false
set_option maxRecDepth 100000
theorem ev_uniq {α : Type} {f : Nat → Option α} {x y : α} (h : Ev f x) (k : Ev f y) : x = y := by
  obtain ⟨n, hn⟩ := h
  obtain ⟨m, hm⟩ := k
  have h1 := hn (max n m) (Nat.le_max_left _ _)
  have h2 := hm (max n m) (Nat.le_max_right _ _)
  exact Option.some.inj (h1.symm.trans h2)
theorem sh_fo (k : Nat) (hk : k ≤ 32) (d : Int) : fo (sh k d) = (if d = 1 then shf k else 1) := by
  unfold sh
  by_cases h : d = 1
  · rw [if_pos h, if_pos h, ev_uniq (share2 k hk) (rShare k hk), fo_fv]
  · rw [if_neg h, if_neg h, fo_one]
theorem sh_w (k : Nat) (hk : k ≤ 32) (d : Int) : W64 (sh k d) := by
  unfold sh
  by_cases h : d = 1
  · rw [if_pos h, ev_uniq (share2 k hk) (rShare k hk)]; exact fv_w _
  · rw [if_neg h]; exact ⟨by decide, by decide⟩
theorem short_law (l : List Int) (k : Nat) (hk : k ≤ 32) (d : Int) (hl : 2 ^ k = l.length) : tb l.length (pv l (2 ^ k) k d (-1) (sh k d)) = tb l.length (tr k d (el l)) := by
  refine tb_congr fun t ht => ?_
  rw [← hl] at ht
  have h1 := pv_at l (2 ^ k) k d (-1) (sh k d) 0 t ht
  rw [Nat.zero_mul, Nat.zero_add] at h1
  rw [h1, if_neg (by decide), sh_fo k hk d]
  unfold tr
  have e : (fun c' => el l (0 + c')) = el l := by funext c'; rw [Nat.zero_add]
  rw [e]
  grobner
def n1 (l : List Int) (R C : Nat) : List Int := tl (C * R) (tps l R C)
def n2 (l : List Int) (R C a k : Nat) (d : Int) : List Int := tb l.length (pv (n1 l R C) R a d (k : Int) 1)
def n3 (l : List Int) (R C a k : Nat) (d : Int) : List Int := tl (R * C) (tps (n2 l R C a k d) C R)
def n4 (l : List Int) (R C a b k : Nat) (d : Int) : List Int := tb l.length (pv (n3 l R C a k d) C b d (-1) (sh k d))
def n5 (l : List Int) (R C a b k : Nat) (d : Int) : List Int := tl (C * R) (tps (n4 l R C a b k d) R C)
theorem n1_el (l : List Int) (R C c r : Nat) (hr : r < R) (hc : c < C) : el (n1 l R C) (c * R + r) = el l (r * C + c) := by
  unfold el n1
  rw [tl_get _ (plc2 hc hr), tps_at _ _ _ _ _ hr]
theorem n2_el (l : List Int) (R C a k : Nat) (d : Int) (hl : R * C = l.length) (c r : Nat) (hr : r < R) (hc : c < C) : el (n2 l R C a k d) (c * R + r) = dft R (rut a d) (fun r' => el l (r' * C + c)) r * pw (rut k d) (c * r) := by
  unfold n2
  rw [el_tb _ (by rw [← hl, Nat.mul_comm R C]; exact plc2 hc hr), pv_at _ _ _ _ _ _ _ _ hr, if_pos (by omega), Int.toNat_natCast, fo_one, dft_congr (g := fun r' => el l (r' * C + c)) (fun r' h' => n1_el l R C c r' h' hc)]
  grobner
theorem n3_el (l : List Int) (R C a k : Nat) (d : Int) (hl : R * C = l.length) (c r : Nat) (hr : r < R) (hc : c < C) : el (n3 l R C a k d) (r * C + c) = dft R (rut a d) (fun r' => el l (r' * C + c)) r * pw (rut k d) (c * r) := by
  rw [← n2_el l R C a k d hl c r hr hc]
  unfold el n3
  rw [tl_get _ (plc2 hr hc), tps_at _ _ _ _ _ hc]
theorem long_law (l : List Int) (a b k : Nat) (d : Int) (R C : Nat) (hR : R = 2 ^ a) (hC : C = 2 ^ b) (hk : k = a + b) (hab : a + b ≤ 20) (hl : R * C = l.length) :
    n5 l R C a b k d = tb l.length (tr k d (el l)) := by
  subst hk
  refine list_ext (by rw [n5, tl_len, tb_len, Nat.mul_comm, hl]) fun t ht => ?_
  rw [n5, tl_len] at ht
  have hR0 : 0 < R := by rw [hR]; exact Nat.two_pow_pos a
  obtain ⟨c', r', hc', hr', rfl⟩ : ∃ c' r', c' < C ∧ r' < R ∧ t = c' * R + r' := ⟨t / R, t % R, by rw [Nat.div_lt_iff_lt_mul hR0]; exact ht, Nat.mod_lt _ hR0, by rw [Nat.mul_comm]; exact (Nat.div_add_mod t R).symm⟩
  have hN : 2 ^ (a + b) = R * C := by rw [Nat.pow_add, hR, hC]
  have hlt : r' * C + c' < l.length := by rw [← hl]; exact plc2 hr' hc'
  rw [n5, tl_get _ ht, tps_at _ _ _ _ _ hr', n4, tb_get _ hlt, tb_get _ (by rw [← hl, Nat.mul_comm R C]; exact ht)]
  refine congrArg fv ?_
  rw [pv_at _ _ _ _ _ _ _ _ hc', if_neg (by decide), dft_congr (g := fun c => dft R (rut a d) (fun r => el l (r * C + c)) r' * pw (rut (a + b) d) (r' * c)) (fun c h' => by rw [n3_el l R C a (a + b) d hl c r' hr' h', Nat.mul_comm c r'])]
  unfold tr
  rw [hN, six_steps R C (rut (a + b) d) (by rw [← hN]; exact rd_full _ _ (by omega)) (el l) r' c', sh_fo (a + b) (by omega) d]
  have p1 : pw (rut (a + b) d) R = rut b d := by rw [hR, rd_pow (a + b) a d (by omega) (by omega), Nat.add_sub_cancel_left]
  have p2 : pw (rut (a + b) d) C = rut a d := by rw [hC, rd_pow (a + b) b d (by omega) (by omega), Nat.add_sub_cancel]
  rw [p1, p2]
  grobner
end Go.Proofs.YtpnkcjnemoompaaGreatDoor.Kern
end
section
namespace Go.Proofs.YtpnkcjnemoompaaGreatDoor.Kern
open Go.RowKit Go.Proofs.YtpnkcjnemoompaaGreatDoor.Plan Go.Proofs.YtpnkcjnemoompaaGreatDoor Go.Proofs.YtpnkcjnemoompaaGreatDoor.Ext Go.Proofs.YtpnkcjnemoompaaGreatDoor.PPlan Go.Proofs.YtpnkcjnemoompaaGreatDoor.PFft Go.Proofs.YtpnkcjnemoompaaGreatDoor.Pure Go.Proofs.YtpnkcjnemoompaaGreatDoor.Obj Go.Proofs.YtpnkcjnemoompaaGreatDoor.Fft Go.Proofs.YtpnkcjnemoompaaGreatDoorW.PrintWords Go.Proofs.YtpnkcjnemoompaaGreatDoorW.PrintLast Go.Proofs.YtpnkcjnemoompaaGreatDoorW.PrintMore
set_option linter.unusedVariables false
set_option linter.unusedSimpArgs false
set_option maxRecDepth 100000
set_option maxHeartbeats 2000000 in
theorem means_long (A : Option Addr) (c : Nat) (l : List Int) (d words K : Int) (kf : Nat) (hf : abacistref03_Fits.f kf (l.length : Int) = some K) (hL : 64 < l.length) (w : World) (hI : In w A c l) (hT : TabP w) :
    Calls Tryz.prog 3 #[.slice A l.length c, .int .i64 d, .int .u16 words] w fun e w' => e = .returned (.bool true) ∧ Below w.heap.size w w' := by
  have HF := Aside0.mk hf
  have HB := Aside0.mk (Below.refl w.heap.size w)
  have HL := Aside0.mk hI
  have HT := Aside0.mk hT
  have f1 : decide ((l.length : Int) > 64) = true := decide_eq_true (by omega)
  have f2 : decide ((64 : Int) < (l.length : Int)) = true := decide_eq_true (by omega)
  clear hI hT
  go_enter Tryz.func3, Tryz.ntmps3
  go_wp2_with fail
  with_reducible refine (awake_calls _ (HT.out.below HB.out)).mono ?_
  rintro e w1 ⟨rfl, hb⟩
  have HB1 := Aside0.mk (below_then HB.out HB.out.size hb)
  have HL1 := Aside0.mk (HL.out.below hb)
  clear hb HB HL
  go_wp2_with fail
  with_reducible refine (abacistref03_Fits.calls kf (l.length : Int) K _ HF.out).mono ?_
  rintro e w2 ⟨rfl, hd2⟩
  have HB2 := Aside0.mk (below_then HB1.out HB1.out.size hd2.below)
  have HL2 := Aside0.mk (HL1.out.below hd2.below)
  clear hd2 HB1 HL1
  go_wp2_with fail
  go_ret
  exact ⟨rfl, HB2.out⟩
set_option maxHeartbeats 2000000 in
theorem means_odd (A : Option Addr) (c : Nat) (l : List Int) (d words K : Int) (kf : Nat) (hf : abacistref03_Fits.f kf (l.length : Int) = some K) (hL : l.length ≤ 64) (hK : K < 0) (w : World) (hI : In w A c l) (hT : TabP w) :
    Calls Tryz.prog 3 #[.slice A l.length c, .int .i64 d, .int .u16 words] w fun e w' => e = .returned (.bool true) ∧ Below w.heap.size w w' := by
  have HF := Aside0.mk hf
  have HB := Aside0.mk (Below.refl w.heap.size w)
  have HL := Aside0.mk hI
  have HT := Aside0.mk hT
  have f1 : decide ((l.length : Int) > 64) = false := decide_eq_false (by omega)
  have f2 : decide ((64 : Int) < (l.length : Int)) = false := decide_eq_false (by omega)
  have f3 : decide (K < 0) = true := decide_eq_true (by omega)
  clear hI hT
  go_enter Tryz.func3, Tryz.ntmps3
  go_wp2_with fail
  with_reducible refine (awake_calls _ (HT.out.below HB.out)).mono ?_
  rintro e w1 ⟨rfl, hb⟩
  have HB1 := Aside0.mk (below_then HB.out HB.out.size hb)
  have HL1 := Aside0.mk (HL.out.below hb)
  clear hb HB HL
  go_wp2_with fail
  with_reducible refine (abacistref03_Fits.calls kf (l.length : Int) K _ HF.out).mono ?_
  rintro e w2 ⟨rfl, hd2⟩
  have HB2 := Aside0.mk (below_then HB1.out HB1.out.size hd2.below)
  have HL2 := Aside0.mk (HL1.out.below hd2.below)
  clear hd2 HB1 HL1
  go_wp2_with fail
  go_ret
  exact ⟨rfl, HB2.out⟩
set_option maxHeartbeats 2000000 in
theorem means_dir (A : Option Addr) (c : Nat) (l : List Int) (d words K : Int) (kf : Nat) (hf : abacistref03_Fits.f kf (l.length : Int) = some K) (hL : l.length ≤ 64) (hK : ¬ K < 0) (hd0 : (d != 0) = true) (hd1 : (d != 1) = true) (w : World) (hI : In w A c l) (hT : TabP w) :
    Calls Tryz.prog 3 #[.slice A l.length c, .int .i64 d, .int .u16 words] w fun e w' => e = .returned (.bool true) ∧ Below w.heap.size w w' := by
  have HF := Aside0.mk hf
  have HB := Aside0.mk (Below.refl w.heap.size w)
  have HL := Aside0.mk hI
  have HT := Aside0.mk hT
  have f1 : decide ((l.length : Int) > 64) = false := decide_eq_false (by omega)
  have f2 : decide ((64 : Int) < (l.length : Int)) = false := decide_eq_false (by omega)
  have f3 : decide (K < 0) = false := decide_eq_false (by omega)
  clear hI hT
  go_enter Tryz.func3, Tryz.ntmps3
  go_wp2_with fail
  with_reducible refine (awake_calls _ (HT.out.below HB.out)).mono ?_
  rintro e w1 ⟨rfl, hb⟩
  have HB1 := Aside0.mk (below_then HB.out HB.out.size hb)
  have HL1 := Aside0.mk (HL.out.below hb)
  clear hb HB HL
  go_wp2_with fail
  with_reducible refine (abacistref03_Fits.calls kf (l.length : Int) K _ HF.out).mono ?_
  rintro e w2 ⟨rfl, hd2⟩
  have HB2 := Aside0.mk (below_then HB1.out HB1.out.size hd2.below)
  have HL2 := Aside0.mk (HL1.out.below hd2.below)
  clear hd2 HB1 HL1
  go_wp2_with fail
  go_ret
  exact ⟨rfl, HB2.out⟩
theorem w64l (z : Int) (h0 : -100 ≤ z) (h1 : z ≤ 100) : wrap64 z = z := by unfold wrap64; omega
structure Mw (w w' : World) (A : Option Addr) (c : Nat) (l : List Int) (Ai : Option Addr) (ci : Nat) (now : List Int) (ad : Addr) (n : Nat) (pl : List S37) : Prop where
  now : In w' Ai ci now
  b : Below w.heap.size w w'
  l : In w' A c l
  p : Kd.C k37 w' (some ad) n pl
theorem Mw.below {w w1 w2 : World} {A : Option Addr} {c : Nat} {l : List Int} {Ai : Option Addr} {ci : Nat} {now : List Int} {ad : Addr} {n : Nat} {pl : List S37} (h : Mw w w1 A c l Ai ci now ad n pl) (hb : Below w1.heap.size w1 w2) : Mw w w2 A c l Ai ci now ad n pl := ⟨h.now.below hb, below_then h.b h.b.size hb, h.l.below hb, Kd.C_below h.p hb⟩
theorem Mw.drew {w w1 : World} {A : Option Addr} {c : Nat} {l : List Int} {Ai : Option Addr} {ci : Nat} {now : List Int} {ad : Addr} {n : Nat} {pl : List S37} (h : Mw w w1 A c l Ai ci now ad n pl) : Mw w w1.drew A c l Ai ci now ad n pl := h.below (below_drew1 (Below.refl _ _))
def nws (l z : List Int) (i : Nat) : List Int := if i = 0 then l else z
theorem pass1_0 (k : Nat) (l : List Int) (CC : Nat) (z : List Int) (d : Int) (hz : z = tb l.length (tr k d (el l))) (hk : k ≤ 20) (hl : 2 ^ k = l.length) (hC : CC = 2 ^ k) (hW : Ws l) {A : Option Addr} {c : Nat} (hd : d = 0 ∨ d = 1) (w : World) (hI : In w A c (nws l z 0)) (hT : TabOK w) :
    Calls Tryz.prog 9 #[.slice A l.length c, .agg #[.int .i64 1, .int .i64 (CC : Int), .int .i64 d, .int .i64 (-1), .int .u64 (sh k d), .int .i64 2, .int .i64 0, .int .i64 3]] w fun e w' => ∃ A' c', e = .returned (.tuple #[.slice A' l.length c', .int .i64 0]) ∧ In w' A' c' (nws l z 1) ∧ Below w.heap.size w w' := by
  subst hC
  have hL : l.length ≤ 1048576 := by rw [← hl]; exact pow20 hk
  have hG : GoodS ((1 : Nat) : Int) ((2 ^ k : Nat) : Int) := ⟨0, k, by omega, ⟨by decide, rfl⟩, ⟨by omega, rfl⟩⟩
  have h := apply_rows A c l 1 (2 ^ k) d (-1) (sh k d) 2 0 3 hG (by rw [Nat.one_mul, hl]) hL 0 k rfl rfl (by omega) hd (by decide) (by decide) (sh_w k (by omega) d) hW w hI hT
  rw [short_law l k (by omega) d hl, ← hz] at h
  exact h
structure LF (l : List Int) (R C a b k : Nat) : Prop where
  r : R = 2 ^ a
  c : C = 2 ^ b
  k : k = a + b
  ab : a + b ≤ 20
  l : R * C = l.length
def lgl (R C k : Nat) (d : Int) : List S37 := [ps (R : Int) (C : Int) 0 (-1) 1 1 0 1, ps (C : Int) (R : Int) d k 1 2 1 2, ps (C : Int) (R : Int) 0 (-1) 1 1 2 1, ps (R : Int) (C : Int) d (-1) (sh k d) 2 1 2, ps (R : Int) (C : Int) 0 (-1) 1 1 2 3]
def nwl (l : List Int) (R C a b k : Nat) (d : Int) (i : Nat) : List Int := match i with
  | 0 => l
  | 1 => n1 l R C
  | 2 => n2 l R C a k d
  | 3 => n3 l R C a k d
  | 4 => n4 l R C a b k d
  | _ => n5 l R C a b k d
theorem tl_ws (n : Nat) (g : Nat → Int) (h : ∀ t, W64 (g t)) : Ws (tl n g) := by
  intro i
  rcases Nat.lt_or_ge i n with hi | hi
  · rw [tl_get g hi]; exact h i
  · rw [List.getD_eq_getElem?_getD, List.getElem?_eq_none (by rw [tl_len]; exact hi)]; exact ⟨by decide, by decide⟩
theorem tps_ws {l : List Int} (h : Ws l) (R C n : Nat) : Ws (tl n (tps l R C)) := tl_ws _ _ fun t => by unfold tps; exact h _
section
variable {l : List Int} {R C a b k : Nat} (h : LF l R C a b k)
include h
theorem LF.g1 : GoodS (R : Int) (C : Int) := ⟨a, b, by have := h.ab; omega, ⟨by have := h.ab; omega, by rw [h.r]⟩, ⟨by have := h.ab; omega, by rw [h.c]⟩⟩
theorem LF.g2 : GoodS (C : Int) (R : Int) := ⟨b, a, by have := h.ab; omega, ⟨by have := h.ab; omega, by rw [h.c]⟩, ⟨by have := h.ab; omega, by rw [h.r]⟩⟩
theorem LF.L : l.length ≤ 1048576 := by rw [← h.l, h.r, h.c, ← Nat.pow_add]; exact pow20 h.ab
theorem LF.R1 : R ≤ 1048576 := by rw [h.r]; exact pow20 (by have := h.ab; omega)
theorem LF.C1 : C ≤ 1048576 := by rw [h.c]; exact pow20 (by have := h.ab; omega)
theorem LF.l1 : (n1 l R C).length = l.length := by rw [n1, tl_len, Nat.mul_comm, h.l]
omit h in
theorem LF.l2 (d : Int) : (n2 l R C a k d).length = l.length := by rw [n2, tb_len]
theorem LF.l3 (d : Int) : (n3 l R C a k d).length = l.length := by rw [n3, tl_len, h.l]
omit h in
theorem LF.l4 (d : Int) : (n4 l R C a b k d).length = l.length := by rw [n4, tb_len]
end
theorem pass5_0 (k : Nat) (l : List Int) (R C a b : Nat) (d : Int) (hF : LF l R C a b k) (hW : Ws l) {A : Option Addr} {c : Nat} (hd : d = 0 ∨ d = 1) (w : World) (hI : In w A c (nwl l R C a b k d 0)) (hT : TabOK w) :
    Calls Tryz.prog 9 #[.slice A l.length c, .agg #[.int .i64 (R : Int), .int .i64 (C : Int), .int .i64 0, .int .i64 (-1), .int .u64 1, .int .i64 1, .int .i64 0, .int .i64 1]] w fun e w' => ∃ A' c', e = .returned (.tuple #[.slice A' l.length c', .int .i64 0]) ∧ In w' A' c' (nwl l R C a b k d 1) ∧ Below w.heap.size w w' := by
  have h := apply_turn A c l R C 0 (-1) 1 1 0 1 hF.g1 hF.l hF.L hF.C1 w hI hT
  exact h
theorem pass5_1 (k : Nat) (l : List Int) (R C a b : Nat) (d : Int) (hF : LF l R C a b k) (hW : Ws l) {A : Option Addr} {c : Nat} (hd : d = 0 ∨ d = 1) (w : World) (hI : In w A c (nwl l R C a b k d 1)) (hT : TabOK w) :
    Calls Tryz.prog 9 #[.slice A l.length c, .agg #[.int .i64 (C : Int), .int .i64 (R : Int), .int .i64 d, .int .i64 (k : Int), .int .u64 1, .int .i64 2, .int .i64 1, .int .i64 2]] w fun e w' => ∃ A' c', e = .returned (.tuple #[.slice A' l.length c', .int .i64 0]) ∧ In w' A' c' (nwl l R C a b k d 2) ∧ Below w.heap.size w w' := by
  have hk := hF.k
  have hab := hF.ab
  have h := apply_rows A c (n1 l R C) C R d (k : Int) 1 2 1 2 hF.g2 (by rw [hF.l1, Nat.mul_comm, hF.l]) (by rw [hF.l1]; exact hF.L) b a hF.c hF.r (by omega) hd (by omega) (by omega) ⟨by decide, by decide⟩ (tps_ws hW _ _ _) w hI hT
  rw [hF.l1] at h
  exact h
theorem pass5_2 (k : Nat) (l : List Int) (R C a b : Nat) (d : Int) (hF : LF l R C a b k) (hW : Ws l) {A : Option Addr} {c : Nat} (hd : d = 0 ∨ d = 1) (w : World) (hI : In w A c (nwl l R C a b k d 2)) (hT : TabOK w) :
    Calls Tryz.prog 9 #[.slice A l.length c, .agg #[.int .i64 (C : Int), .int .i64 (R : Int), .int .i64 0, .int .i64 (-1), .int .u64 1, .int .i64 1, .int .i64 2, .int .i64 1]] w fun e w' => ∃ A' c', e = .returned (.tuple #[.slice A' l.length c', .int .i64 0]) ∧ In w' A' c' (nwl l R C a b k d 3) ∧ Below w.heap.size w w' := by
  have h := apply_turn A c (n2 l R C a k d) C R 0 (-1) 1 1 2 1 hF.g2 (by rw [LF.l2, Nat.mul_comm, hF.l]) (by rw [LF.l2]; exact hF.L) hF.R1 w hI hT
  rw [LF.l2] at h
  exact h
theorem pass5_3 (k : Nat) (l : List Int) (R C a b : Nat) (d : Int) (hF : LF l R C a b k) (hW : Ws l) {A : Option Addr} {c : Nat} (hd : d = 0 ∨ d = 1) (w : World) (hI : In w A c (nwl l R C a b k d 3)) (hT : TabOK w) :
    Calls Tryz.prog 9 #[.slice A l.length c, .agg #[.int .i64 (R : Int), .int .i64 (C : Int), .int .i64 d, .int .i64 (-1), .int .u64 (sh k d), .int .i64 2, .int .i64 1, .int .i64 2]] w fun e w' => ∃ A' c', e = .returned (.tuple #[.slice A' l.length c', .int .i64 0]) ∧ In w' A' c' (nwl l R C a b k d 4) ∧ Below w.heap.size w w' := by
  have hk := hF.k
  have hab := hF.ab
  have h := apply_rows A c (n3 l R C a k d) R C d (-1) (sh k d) 2 1 2 hF.g1 (by rw [hF.l3, hF.l]) (by rw [hF.l3]; exact hF.L) a b hF.r hF.c (by omega) hd (by decide) (by decide) (sh_w k (by omega) d) (tps_ws (tb_ws _ _) _ _ _) w hI hT
  rw [hF.l3] at h
  exact h
theorem pass5_4 (k : Nat) (l : List Int) (R C a b : Nat) (d : Int) (hF : LF l R C a b k) (hW : Ws l) {A : Option Addr} {c : Nat} (hd : d = 0 ∨ d = 1) (w : World) (hI : In w A c (nwl l R C a b k d 4)) (hT : TabOK w) :
    Calls Tryz.prog 9 #[.slice A l.length c, .agg #[.int .i64 (R : Int), .int .i64 (C : Int), .int .i64 0, .int .i64 (-1), .int .u64 1, .int .i64 1, .int .i64 2, .int .i64 3]] w fun e w' => ∃ A' c', e = .returned (.tuple #[.slice A' l.length c', .int .i64 0]) ∧ In w' A' c' (nwl l R C a b k d 5) ∧ Below w.heap.size w w' := by
  have h := apply_turn A c (n4 l R C a b k d) R C 0 (-1) 1 1 2 3 hF.g1 (by rw [LF.l4, hF.l]) (by rw [LF.l4]; exact hF.L) hF.C1 w hI hT
  rw [LF.l4] at h
  exact h
end Go.Proofs.YtpnkcjnemoompaaGreatDoor.Kern
end
section
namespace Go.Proofs.YtpnkcjnemoompaaGreatDoor.Kern
open Go.RowKit Go.Proofs.YtpnkcjnemoompaaGreatDoor.Plan Go.Proofs.YtpnkcjnemoompaaGreatDoor Go.Proofs.YtpnkcjnemoompaaGreatDoor.Ext Go.Proofs.YtpnkcjnemoompaaGreatDoor.PPlan Go.Proofs.YtpnkcjnemoompaaGreatDoor.PFft Go.Proofs.YtpnkcjnemoompaaGreatDoor.Pure Go.Proofs.YtpnkcjnemoompaaGreatDoor.Obj Go.Proofs.YtpnkcjnemoompaaGreatDoor.Fft Go.Proofs.YtpnkcjnemoompaaGreatDoorW.PrintWords Go.Proofs.YtpnkcjnemoompaaGreatDoorW.PrintLast Go.Proofs.YtpnkcjnemoompaaGreatDoorW.PrintMore
set_option linter.unusedVariables false
set_option linter.unusedSimpArgs false
set_option maxRecDepth 100000
set_option maxHeartbeats 8000000 in
theorem means_1_0 (A : Option Addr) (c : Nat) (l : List Int) (words : Int) (k kf : Nat) (CC : Nat) (hk : k ≤ 6) (hC : CC = 2 ^ k) (hl : 2 ^ k = l.length) (hw0 : 0 ≤ words) (hw1 : words ≤ 65535) (hf : abacistref03_Fits.f kf (l.length : Int) = some (k : Int)) (hps : psl k 0 4 (((2 * 2 ^ ((k + 1) / 2) + 4 : Nat) : Int) + words.tmod 300) = [ps 1 (CC : Int) 0 (-1) (sh k 0) 2 0 3]) (hW : Ws l) (w : World) (hI : In w A c l) (hT : TabP w) :
    Calls Tryz.prog 3 #[.slice A l.length c, .int .i64 0, .int .u16 words] w fun e w' => e = .returned (.bool true) ∧ Below w.heap.size w w' := by
  have hL : l.length ≤ 64 := by rw [← hl]; exact Nat.le_trans (Nat.pow_le_pow_right (by decide) hk) (by decide)
  have hp : 0 < l.length := by rw [← hl]; exact Nat.two_pow_pos _
  obtain ⟨L, hLe⟩ : ∃ z : Nat, z = 2 * 2 ^ ((k + 1) / 2) + 4 := ⟨_, rfl⟩
  have hLb : L ≤ 20 := by rw [hLe]; have := Nat.pow_le_pow_right (show 0 < 2 by decide) (show (k + 1) / 2 ≤ 3 by omega); omega
  obtain ⟨q, hq⟩ : ∃ z : Nat, (z : Int) = words.tmod 300 := ⟨(words.tmod 300).toNat, Int.toNat_of_nonneg (by rw [Int.tmod_eq_emod_of_nonneg hw0]; omega)⟩
  have hqb : q < 300 := by have := Int.tmod_eq_emod_of_nonneg (b := 300) hw0; omega
  obtain ⟨k1, h1⟩ := (Least2 k (by omega) 4 (by decide)).rounds
  obtain ⟨k2, h2⟩ := (passes_ok k 4 0 (((2 * 2 ^ ((k + 1) / 2) + 4 : Nat) : Int) + words.tmod 300) (by simp [goodq, perq]; omega) (by decide) (by rw [← hq]; omega)).rounds
  rw [hps] at h2
  rw [← hLe] at h1 h2
  rw [show ((4 : Nat) : Int) = 4 from rfl] at h1 h2
  rw [← hq, ← Int.natCast_add] at h2
  obtain ⟨W, hWe⟩ : ∃ z : Nat, z = L + q := ⟨_, rfl⟩
  have hWb : W ≤ 1000 := by omega
  have e1 : (L : Int) + words % 300 = (W : Int) := by rw [← Int.tmod_eq_emod_of_nonneg hw0, ← hq, hWe, Int.natCast_add]
  rw [← hWe] at h2
  obtain ⟨k3, h3⟩ := (rTransform l hW k (by omega) 0 (by decide) (by omega) hl.symm).rounds
  obtain ⟨z, hz⟩ : ∃ z, z = tb l.length (tr k 0 (el l)) := ⟨_, rfl⟩
  have hzl : z.length = l.length := by rw [hz, tb_len]
  obtain ⟨k4, h4⟩ := (same_yes z z (by omega) rfl).rounds
  have HCC := Aside0.mk hC
  clear hC
  have HF := Aside0.mk hf
  have H1 := Aside0.mk h1
  have H2 := Aside0.mk h2
  rw [← hz] at h3
  have H3 := Aside0.mk h3
  have H4 := Aside0.mk h4
  have HZ := Aside0.mk hz
  have HW := Aside0.mk hW
  have HLn := Aside0.mk hl
  have E1 := Aside0.mk e1
  clear hf h1 h2 h3 h4 hps hLe hq hWe hz hW hl e1
  have HB := Aside0.mk (Below.refl w.heap.size w)
  have HL := Aside0.mk hI
  have HT := Aside0.mk hT
  have f1 : decide ((l.length : Int) > 64) = false := decide_eq_false (by omega)
  have f2 : decide ((64 : Int) < (l.length : Int)) = false := decide_eq_false (by omega)
  have f3 : decide ((k : Int) < 0) = false := decide_eq_false (by omega)
  clear hI hT
  go_enter Tryz.func3, Tryz.ntmps3
  go_wp2_with fail
  with_reducible refine (awake_calls _ (HT.out.below HB.out)).mono ?_
  rintro e w1 ⟨rfl, hb⟩
  have HB1 := Aside0.mk (below_then HB.out HB.out.size hb)
  have HL1 := Aside0.mk (HL.out.below hb)
  clear hb HB HL
  go_wp2_with fail
  with_reducible refine (abacistref03_Fits.calls kf (l.length : Int) (k : Int) _ HF.out).mono ?_
  rintro e w2 ⟨rfl, hd2⟩
  have HB2 := Aside0.mk (below_then HB1.out HB1.out.size hd2.below)
  have HL2 := Aside0.mk (HL1.out.below hd2.below)
  clear hd2 HB1 HL1
  go_wp2_with fail
  with_reducible refine (abacistref24_Least.calls k1 (k : Int) 4 (L : Int) _ H1.out).mono ?_
  rintro e w3 ⟨rfl, hd3⟩
  have HB3 := Aside0.mk (below_then HB2.out HB2.out.size hd3.below)
  have HL3 := Aside0.mk (HL2.out.below hd3.below)
  clear hd3 HB2 HL2
  go_wp2_with fail
  rw [E1.out]
  with_reducible refine (plan_Passes.calls k2 (k : Int) 0 4 (W : Int) _ 0 _ H2.out).mono ?_
  rintro e w4 ⟨v, rfl, hR, hb⟩
  have HB4 := Aside0.mk (below_then HB3.out HB3.out.size hb)
  have HL4 := Aside0.mk (HL3.out.below hb)
  obtain ⟨Ap, cp, rfl, hcp, hCp⟩ := Kd.R_reads hR
  rw [show ([ps 1 (CC : Int) 0 (-1) (sh k 0) 2 0 3]).length = 1 from rfl] at hCp ⊢
  obtain ⟨ad, q0, hx⟩ := at_T37 hCp 0 (by decide) (by decide)
  cases q0
  clear hx
  have HP4 := Aside0.mk hCp
  clear hb hR hcp hCp HB3 HL3
  obtain ⟨adt, qt, t0, t1, t2, t3, t4, t5, t6, t7⟩ := at_T37 HP4.out 0 (by decide) (by decide)
  cases qt
  rw [show rd_T37 ([ps 1 (CC : Int) 0 (-1) (sh k 0) 2 0 3]) 0 = ps 1 (CC : Int) 0 (-1) (sh k 0) 2 0 3 from rfl] at t0 t1 t2 t3 t4 t5 t6 t7
  simp only [show (0 : Int).toNat * 8 = 0 from rfl, ps] at t0 t1 t2 t3 t4 t5 t6 t7
  rw [show ad.add 0 = ad from by cases ad; rfl] at t0 t1 t2 t3 t4 t5 t6 t7
  go_wp2_with (first | ((with_reducible refine gate_dst (N := 75) rfl ?_); refine Kd.R_lit (Kd.int .u64) _ 33 ?hg (N := 75) ?hd (xs := []) (inner := []) (ok := fun _ => True) (okp := fun _ => True) ?hr ?hp (fun _ hk => hk) trivial (Below.refl _ _) (Nat.le_refl _) (by simp) ?_; (case hd => rfl); (case hg => rfl); (case hr => first | (go_simp; done) | (go_simp; rfl)); (case hp => exact (Reps.none _ _)); intro v5 w5 ho hb hg_ hnew_; have HOx := Aside0.mk ho; have HBx := Aside0.mk hb; clear hg_ hnew_ ho hb) | ((with_reducible refine gate_builtin (b := .append) (xs := #[.tmp 75, .tmp 76]) rfl ?_); at_builtin; refine Kd.R_append_rows (Kd.int .u64) (w0 := w4) w4.heap.size rfl (.tmp 75) (.tmp 76) 22 33 (.int .u64 0) 8 rfl Tryz.underlying22 info33 rfl (by decide) (by omega) v5 [] (l) _ _ _ (fun _ => True) (fun _ => False) rfl rfl ?aO ?aR (fun _ _ h => h) (fun _ h => h.elim) ?aF ?aB ?aS ?aL ?_; (case aR => exact (Kd.C_below (HL4.out.r) HBx.out)); (case aB => exact HBx.out); (case aF => exact (fun _ _ => trivial)); (case aO => exact HOx.out); (case aS => exact HBx.out.size); (case aL => (simp only [List.length_nil]; omega)); intro v6 w6 ho2 hb2 hg_ hat_; rw [List.nil_append] at ho2; clear hg_ hat_; clear HOx HBx; obtain ⟨Am, cm, hv, hlm, hcm⟩ := Kd.R_reads ho2; subst hv; have HM5 := Aside0.mk (In.mk hcm hlm); have HB5 := Aside0.mk (below_then HB4.out HB4.out.size hb2); have HL5 := Aside0.mk (HL4.out.below hb2); have HP5 := Aside0.mk (Kd.C_below HP4.out hb2); clear hcm hlm ho2 hb2 HB4 HL4 HP4; clear t0 t1 t2 t3 t4 t5 t6 t7))
  have HX5 := Aside0.mk (show Mw w _ A c l Am cm ((nws l z) 0) ad 1 ([ps 1 (CC : Int) 0 (-1) (sh k 0) 2 0 3]) from ⟨HM5.out, HB5.out, HL5.out, HP5.out⟩)
  clear HM5 HB5 HL5 HP5
  go_loopw [10, 11] (fun v10 v11 wr => ∃ (i : Nat) (Ai : Option Addr) (ci : Nat), v10 = .slice Ai l.length ci ∧ v11 = .int .i64 i ∧ i ≤ 1 ∧ Aside0 (Mw w wr A c l Ai ci ((nws l z) i) ad 1 ([ps 1 (CC : Int) 0 (-1) (sh k 0) 2 0 3]))) (fun _ v11 _ => 1 - (intOf v11).toNat)
  case atStart => exact ⟨0, Am, cm, rfl, rfl, Nat.zero_le _, HX5⟩
  case round =>
    clear HX5
    obtain ⟨i, Ai, ci, rfl, rfl, hi, HX⟩ := hrel
    rcases (by omega : i = 0 ∨ i = 1) with rfl | rfl
    · rw [show ((0 : Nat) : Int) = 0 from rfl]
      go_wp2_with fail
      have HPd := Aside0.mk HX.out.p
      obtain ⟨adt, qt, t0, t1, t2, t3, t4, t5, t6, t7⟩ := at_T37 HPd.out 0 (by decide) (by decide)
      cases qt
      rw [show rd_T37 ([ps 1 (CC : Int) 0 (-1) (sh k 0) 2 0 3]) 0 = ps 1 (CC : Int) 0 (-1) (sh k 0) 2 0 3 from rfl] at t0 t1 t2 t3 t4 t5 t6 t7
      simp only [show (0 : Int).toNat * 8 = 0 from rfl, ps] at t0 t1 t2 t3 t4 t5 t6 t7
      rw [show ad.add 0 = ad from by cases ad; rfl] at t0 t1 t2 t3 t4 t5 t6 t7
      have e39 : wrap64 (1 : Int) = 1 := w64l _ (by decide) (by decide)
      go_quiet (fail)
      go_wp2_with fail
      clear t0 t1 t2 t3 t4 t5 t6 t7 e39 
      with_reducible refine (pass1_0 k l CC z 0 HZ.out (by omega) HLn.out HCC.out HW.out (by decide) _ (HX.out.below (pw_below_drewN (Below.refl _ _) _)).now (HT.out.below (HX.out.below (pw_below_drewN (Below.refl _ _) _)).b).bits).mono ?_
      rintro e w7 ⟨A7, c7, rfl, hm, hb⟩
      have hy := (HX.out.below (pw_below_drewN (Below.refl _ _) _)).below hb
      have HX7 := Aside0.mk (show Mw w w7 A c l A7 c7 ((nws l z) 1) ad 1 ([ps 1 (CC : Int) 0 (-1) (sh k 0) 2 0 3]) from ⟨hm, hy.b, hy.l, hy.p⟩)
      clear hm hb hy HX HPd
      go_wp2
      go_roundw
      case rel => exact ⟨1, A7, c7, rfl, by go_num, by decide, HX7⟩
      case measure => simp [intOf]
    · rw [show ((1 : Nat) : Int) = 1 from rfl]
      go_wp2_with fail
      with_reducible refine (abacistref08_Transform.calls k3 A c l (k : Int) 0 z _ HX.out.l.r HX.out.l.c H3.out).mono ?_
      rintro e w8 ⟨v, rfl, hr, hb⟩
      obtain ⟨A8, c8, rfl, hl8, hc8⟩ := Kd.R_reads hr
      have HN8 := Aside0.mk (In.mk hc8 hl8)
      have HX8 := Aside0.mk (HX.out.below hb)
      clear hr hb hl8 hc8 HX
      have hm9 := HX8.out.now
      rw [(show nws l z 1 = z from rfl)] at hm9
      have HM9 := Aside0.mk hm9
      clear hm9
      rw [hzl]
      go_wp2_with fail
      have hs := abacistref04_Same.calls k4 Ai ci z A8 c8 z true _ HM9.out.r HM9.out.c HN8.out.r HN8.out.c H4.out
      rw [hzl] at hs
      with_reducible refine hs.mono ?_
      clear hs
      rintro e w9 ⟨rfl, hb⟩
      have HB9 := Aside0.mk (below_then HX8.out.b HX8.out.b.size hb.below)
      clear hb
      go_wp2_with fail
      go_ret
      exact ⟨rfl, HB9.out⟩
end Go.Proofs.YtpnkcjnemoompaaGreatDoor.Kern
end
section
namespace Go.Proofs.YtpnkcjnemoompaaGreatDoor.Kern
open Go.RowKit Go.Proofs.YtpnkcjnemoompaaGreatDoor.Plan Go.Proofs.YtpnkcjnemoompaaGreatDoor Go.Proofs.YtpnkcjnemoompaaGreatDoor.Ext Go.Proofs.YtpnkcjnemoompaaGreatDoor.PPlan Go.Proofs.YtpnkcjnemoompaaGreatDoor.PFft Go.Proofs.YtpnkcjnemoompaaGreatDoor.Pure Go.Proofs.YtpnkcjnemoompaaGreatDoor.Obj Go.Proofs.YtpnkcjnemoompaaGreatDoor.Fft Go.Proofs.YtpnkcjnemoompaaGreatDoorW.PrintWords Go.Proofs.YtpnkcjnemoompaaGreatDoorW.PrintLast Go.Proofs.YtpnkcjnemoompaaGreatDoorW.PrintMore
set_option linter.unusedVariables false
set_option linter.unusedSimpArgs false
set_option maxRecDepth 100000
set_option maxHeartbeats 8000000 in
theorem means_1_1 (A : Option Addr) (c : Nat) (l : List Int) (words : Int) (k kf : Nat) (CC : Nat) (hk : k ≤ 6) (hC : CC = 2 ^ k) (hl : 2 ^ k = l.length) (hw0 : 0 ≤ words) (hw1 : words ≤ 65535) (hf : abacistref03_Fits.f kf (l.length : Int) = some (k : Int)) (hps : psl k 1 4 (((2 * 2 ^ ((k + 1) / 2) + 4 : Nat) : Int) + words.tmod 300) = [ps 1 (CC : Int) 1 (-1) (sh k 1) 2 0 3]) (hW : Ws l) (w : World) (hI : In w A c l) (hT : TabP w) :
    Calls Tryz.prog 3 #[.slice A l.length c, .int .i64 1, .int .u16 words] w fun e w' => e = .returned (.bool true) ∧ Below w.heap.size w w' := by
  have hL : l.length ≤ 64 := by rw [← hl]; exact Nat.le_trans (Nat.pow_le_pow_right (by decide) hk) (by decide)
  have hp : 0 < l.length := by rw [← hl]; exact Nat.two_pow_pos _
  obtain ⟨L, hLe⟩ : ∃ z : Nat, z = 2 * 2 ^ ((k + 1) / 2) + 4 := ⟨_, rfl⟩
  have hLb : L ≤ 20 := by rw [hLe]; have := Nat.pow_le_pow_right (show 0 < 2 by decide) (show (k + 1) / 2 ≤ 3 by omega); omega
  obtain ⟨q, hq⟩ : ∃ z : Nat, (z : Int) = words.tmod 300 := ⟨(words.tmod 300).toNat, Int.toNat_of_nonneg (by rw [Int.tmod_eq_emod_of_nonneg hw0]; omega)⟩
  have hqb : q < 300 := by have := Int.tmod_eq_emod_of_nonneg (b := 300) hw0; omega
  obtain ⟨k1, h1⟩ := (Least2 k (by omega) 4 (by decide)).rounds
  obtain ⟨k2, h2⟩ := (passes_ok k 4 1 (((2 * 2 ^ ((k + 1) / 2) + 4 : Nat) : Int) + words.tmod 300) (by simp [goodq, perq]; omega) (by decide) (by rw [← hq]; omega)).rounds
  rw [hps] at h2
  rw [← hLe] at h1 h2
  rw [show ((4 : Nat) : Int) = 4 from rfl] at h1 h2
  rw [← hq, ← Int.natCast_add] at h2
  obtain ⟨W, hWe⟩ : ∃ z : Nat, z = L + q := ⟨_, rfl⟩
  have hWb : W ≤ 1000 := by omega
  have e1 : (L : Int) + words % 300 = (W : Int) := by rw [← Int.tmod_eq_emod_of_nonneg hw0, ← hq, hWe, Int.natCast_add]
  rw [← hWe] at h2
  obtain ⟨k3, h3⟩ := (rTransform l hW k (by omega) 1 (by decide) (by omega) hl.symm).rounds
  obtain ⟨z, hz⟩ : ∃ z, z = tb l.length (tr k 1 (el l)) := ⟨_, rfl⟩
  have hzl : z.length = l.length := by rw [hz, tb_len]
  obtain ⟨k4, h4⟩ := (same_yes z z (by omega) rfl).rounds
  have HCC := Aside0.mk hC
  clear hC
  have HF := Aside0.mk hf
  have H1 := Aside0.mk h1
  have H2 := Aside0.mk h2
  rw [← hz] at h3
  have H3 := Aside0.mk h3
  have H4 := Aside0.mk h4
  have HZ := Aside0.mk hz
  have HW := Aside0.mk hW
  have HLn := Aside0.mk hl
  have E1 := Aside0.mk e1
  clear hf h1 h2 h3 h4 hps hLe hq hWe hz hW hl e1
  have HB := Aside0.mk (Below.refl w.heap.size w)
  have HL := Aside0.mk hI
  have HT := Aside0.mk hT
  have f1 : decide ((l.length : Int) > 64) = false := decide_eq_false (by omega)
  have f2 : decide ((64 : Int) < (l.length : Int)) = false := decide_eq_false (by omega)
  have f3 : decide ((k : Int) < 0) = false := decide_eq_false (by omega)
  clear hI hT
  go_enter Tryz.func3, Tryz.ntmps3
  go_wp2_with fail
  with_reducible refine (awake_calls _ (HT.out.below HB.out)).mono ?_
  rintro e w1 ⟨rfl, hb⟩
  have HB1 := Aside0.mk (below_then HB.out HB.out.size hb)
  have HL1 := Aside0.mk (HL.out.below hb)
  clear hb HB HL
  go_wp2_with fail
  with_reducible refine (abacistref03_Fits.calls kf (l.length : Int) (k : Int) _ HF.out).mono ?_
  rintro e w2 ⟨rfl, hd2⟩
  have HB2 := Aside0.mk (below_then HB1.out HB1.out.size hd2.below)
  have HL2 := Aside0.mk (HL1.out.below hd2.below)
  clear hd2 HB1 HL1
  go_wp2_with fail
  with_reducible refine (abacistref24_Least.calls k1 (k : Int) 4 (L : Int) _ H1.out).mono ?_
  rintro e w3 ⟨rfl, hd3⟩
  have HB3 := Aside0.mk (below_then HB2.out HB2.out.size hd3.below)
  have HL3 := Aside0.mk (HL2.out.below hd3.below)
  clear hd3 HB2 HL2
  go_wp2_with fail
  rw [E1.out]
  with_reducible refine (plan_Passes.calls k2 (k : Int) 1 4 (W : Int) _ 0 _ H2.out).mono ?_
  rintro e w4 ⟨v, rfl, hR, hb⟩
  have HB4 := Aside0.mk (below_then HB3.out HB3.out.size hb)
  have HL4 := Aside0.mk (HL3.out.below hb)
  obtain ⟨Ap, cp, rfl, hcp, hCp⟩ := Kd.R_reads hR
  rw [show ([ps 1 (CC : Int) 1 (-1) (sh k 1) 2 0 3]).length = 1 from rfl] at hCp ⊢
  obtain ⟨ad, q0, hx⟩ := at_T37 hCp 0 (by decide) (by decide)
  cases q0
  clear hx
  have HP4 := Aside0.mk hCp
  clear hb hR hcp hCp HB3 HL3
  obtain ⟨adt, qt, t0, t1, t2, t3, t4, t5, t6, t7⟩ := at_T37 HP4.out 0 (by decide) (by decide)
  cases qt
  rw [show rd_T37 ([ps 1 (CC : Int) 1 (-1) (sh k 1) 2 0 3]) 0 = ps 1 (CC : Int) 1 (-1) (sh k 1) 2 0 3 from rfl] at t0 t1 t2 t3 t4 t5 t6 t7
  simp only [show (0 : Int).toNat * 8 = 0 from rfl, ps] at t0 t1 t2 t3 t4 t5 t6 t7
  rw [show ad.add 0 = ad from by cases ad; rfl] at t0 t1 t2 t3 t4 t5 t6 t7
  go_wp2_with (first | ((with_reducible refine gate_dst (N := 75) rfl ?_); refine Kd.R_lit (Kd.int .u64) _ 33 ?hg (N := 75) ?hd (xs := []) (inner := []) (ok := fun _ => True) (okp := fun _ => True) ?hr ?hp (fun _ hk => hk) trivial (Below.refl _ _) (Nat.le_refl _) (by simp) ?_; (case hd => rfl); (case hg => rfl); (case hr => first | (go_simp; done) | (go_simp; rfl)); (case hp => exact (Reps.none _ _)); intro v5 w5 ho hb hg_ hnew_; have HOx := Aside0.mk ho; have HBx := Aside0.mk hb; clear hg_ hnew_ ho hb) | ((with_reducible refine gate_builtin (b := .append) (xs := #[.tmp 75, .tmp 76]) rfl ?_); at_builtin; refine Kd.R_append_rows (Kd.int .u64) (w0 := w4) w4.heap.size rfl (.tmp 75) (.tmp 76) 22 33 (.int .u64 0) 8 rfl Tryz.underlying22 info33 rfl (by decide) (by omega) v5 [] (l) _ _ _ (fun _ => True) (fun _ => False) rfl rfl ?aO ?aR (fun _ _ h => h) (fun _ h => h.elim) ?aF ?aB ?aS ?aL ?_; (case aR => exact (Kd.C_below (HL4.out.r) HBx.out)); (case aB => exact HBx.out); (case aF => exact (fun _ _ => trivial)); (case aO => exact HOx.out); (case aS => exact HBx.out.size); (case aL => (simp only [List.length_nil]; omega)); intro v6 w6 ho2 hb2 hg_ hat_; rw [List.nil_append] at ho2; clear hg_ hat_; clear HOx HBx; obtain ⟨Am, cm, hv, hlm, hcm⟩ := Kd.R_reads ho2; subst hv; have HM5 := Aside0.mk (In.mk hcm hlm); have HB5 := Aside0.mk (below_then HB4.out HB4.out.size hb2); have HL5 := Aside0.mk (HL4.out.below hb2); have HP5 := Aside0.mk (Kd.C_below HP4.out hb2); clear hcm hlm ho2 hb2 HB4 HL4 HP4; clear t0 t1 t2 t3 t4 t5 t6 t7))
  have HX5 := Aside0.mk (show Mw w _ A c l Am cm ((nws l z) 0) ad 1 ([ps 1 (CC : Int) 1 (-1) (sh k 1) 2 0 3]) from ⟨HM5.out, HB5.out, HL5.out, HP5.out⟩)
  clear HM5 HB5 HL5 HP5
  go_loopw [10, 11] (fun v10 v11 wr => ∃ (i : Nat) (Ai : Option Addr) (ci : Nat), v10 = .slice Ai l.length ci ∧ v11 = .int .i64 i ∧ i ≤ 1 ∧ Aside0 (Mw w wr A c l Ai ci ((nws l z) i) ad 1 ([ps 1 (CC : Int) 1 (-1) (sh k 1) 2 0 3]))) (fun _ v11 _ => 1 - (intOf v11).toNat)
  case atStart => exact ⟨0, Am, cm, rfl, rfl, Nat.zero_le _, HX5⟩
  case round =>
    clear HX5
    obtain ⟨i, Ai, ci, rfl, rfl, hi, HX⟩ := hrel
    rcases (by omega : i = 0 ∨ i = 1) with rfl | rfl
    · rw [show ((0 : Nat) : Int) = 0 from rfl]
      go_wp2_with fail
      have HPd := Aside0.mk HX.out.p
      obtain ⟨adt, qt, t0, t1, t2, t3, t4, t5, t6, t7⟩ := at_T37 HPd.out 0 (by decide) (by decide)
      cases qt
      rw [show rd_T37 ([ps 1 (CC : Int) 1 (-1) (sh k 1) 2 0 3]) 0 = ps 1 (CC : Int) 1 (-1) (sh k 1) 2 0 3 from rfl] at t0 t1 t2 t3 t4 t5 t6 t7
      simp only [show (0 : Int).toNat * 8 = 0 from rfl, ps] at t0 t1 t2 t3 t4 t5 t6 t7
      rw [show ad.add 0 = ad from by cases ad; rfl] at t0 t1 t2 t3 t4 t5 t6 t7
      have e39 : wrap64 (1 : Int) = 1 := w64l _ (by decide) (by decide)
      go_quiet (fail)
      go_wp2_with fail
      clear t0 t1 t2 t3 t4 t5 t6 t7 e39 
      with_reducible refine (pass1_0 k l CC z 1 HZ.out (by omega) HLn.out HCC.out HW.out (by decide) _ (HX.out.below (pw_below_drewN (Below.refl _ _) _)).now (HT.out.below (HX.out.below (pw_below_drewN (Below.refl _ _) _)).b).bits).mono ?_
      rintro e w7 ⟨A7, c7, rfl, hm, hb⟩
      have hy := (HX.out.below (pw_below_drewN (Below.refl _ _) _)).below hb
      have HX7 := Aside0.mk (show Mw w w7 A c l A7 c7 ((nws l z) 1) ad 1 ([ps 1 (CC : Int) 1 (-1) (sh k 1) 2 0 3]) from ⟨hm, hy.b, hy.l, hy.p⟩)
      clear hm hb hy HX HPd
      go_wp2
      go_roundw
      case rel => exact ⟨1, A7, c7, rfl, by go_num, by decide, HX7⟩
      case measure => simp [intOf]
    · rw [show ((1 : Nat) : Int) = 1 from rfl]
      go_wp2_with fail
      with_reducible refine (abacistref08_Transform.calls k3 A c l (k : Int) 1 z _ HX.out.l.r HX.out.l.c H3.out).mono ?_
      rintro e w8 ⟨v, rfl, hr, hb⟩
      obtain ⟨A8, c8, rfl, hl8, hc8⟩ := Kd.R_reads hr
      have HN8 := Aside0.mk (In.mk hc8 hl8)
      have HX8 := Aside0.mk (HX.out.below hb)
      clear hr hb hl8 hc8 HX
      have hm9 := HX8.out.now
      rw [(show nws l z 1 = z from rfl)] at hm9
      have HM9 := Aside0.mk hm9
      clear hm9
      rw [hzl]
      go_wp2_with fail
      have hs := abacistref04_Same.calls k4 Ai ci z A8 c8 z true _ HM9.out.r HM9.out.c HN8.out.r HN8.out.c H4.out
      rw [hzl] at hs
      with_reducible refine hs.mono ?_
      clear hs
      rintro e w9 ⟨rfl, hb⟩
      have HB9 := Aside0.mk (below_then HX8.out.b HX8.out.b.size hb.below)
      clear hb
      go_wp2_with fail
      go_ret
      exact ⟨rfl, HB9.out⟩
end Go.Proofs.YtpnkcjnemoompaaGreatDoor.Kern
end
section
namespace Go.Proofs.YtpnkcjnemoompaaGreatDoor.Kern
open Go.RowKit Go.Proofs.YtpnkcjnemoompaaGreatDoor.Plan Go.Proofs.YtpnkcjnemoompaaGreatDoor Go.Proofs.YtpnkcjnemoompaaGreatDoor.Ext Go.Proofs.YtpnkcjnemoompaaGreatDoor.PPlan Go.Proofs.YtpnkcjnemoompaaGreatDoor.PFft Go.Proofs.YtpnkcjnemoompaaGreatDoor.Pure Go.Proofs.YtpnkcjnemoompaaGreatDoor.Obj Go.Proofs.YtpnkcjnemoompaaGreatDoor.Fft Go.Proofs.YtpnkcjnemoompaaGreatDoorW.PrintWords Go.Proofs.YtpnkcjnemoompaaGreatDoorW.PrintLast Go.Proofs.YtpnkcjnemoompaaGreatDoorW.PrintMore
set_option linter.unusedVariables false
set_option linter.unusedSimpArgs false
set_option maxRecDepth 100000
set_option maxHeartbeats 8000000 in
theorem means_5_0 (A : Option Addr) (c : Nat) (l : List Int) (words : Int) (k kf : Nat) (RR CC a b : Nat) (hk : k ≤ 6) (hF : LF l RR CC a b k) (hl : 2 ^ k = l.length) (hw0 : 0 ≤ words) (hw1 : words ≤ 65535) (hf : abacistref03_Fits.f kf (l.length : Int) = some (k : Int)) (hps : psl k 0 4 (((2 * 2 ^ ((k + 1) / 2) + 4 : Nat) : Int) + words.tmod 300) = lgl RR CC k 0) (hW : Ws l) (w : World) (hI : In w A c l) (hT : TabP w) :
    Calls Tryz.prog 3 #[.slice A l.length c, .int .i64 0, .int .u16 words] w fun e w' => e = .returned (.bool true) ∧ Below w.heap.size w w' := by
  have hL : l.length ≤ 64 := by rw [← hl]; exact Nat.le_trans (Nat.pow_le_pow_right (by decide) hk) (by decide)
  have hp : 0 < l.length := by rw [← hl]; exact Nat.two_pow_pos _
  obtain ⟨L, hLe⟩ : ∃ z : Nat, z = 2 * 2 ^ ((k + 1) / 2) + 4 := ⟨_, rfl⟩
  have hLb : L ≤ 20 := by rw [hLe]; have := Nat.pow_le_pow_right (show 0 < 2 by decide) (show (k + 1) / 2 ≤ 3 by omega); omega
  obtain ⟨q, hq⟩ : ∃ z : Nat, (z : Int) = words.tmod 300 := ⟨(words.tmod 300).toNat, Int.toNat_of_nonneg (by rw [Int.tmod_eq_emod_of_nonneg hw0]; omega)⟩
  have hqb : q < 300 := by have := Int.tmod_eq_emod_of_nonneg (b := 300) hw0; omega
  obtain ⟨k1, h1⟩ := (Least2 k (by omega) 4 (by decide)).rounds
  obtain ⟨k2, h2⟩ := (passes_ok k 4 0 (((2 * 2 ^ ((k + 1) / 2) + 4 : Nat) : Int) + words.tmod 300) (by simp [goodq, perq]; omega) (by decide) (by rw [← hq]; omega)).rounds
  rw [hps] at h2
  rw [← hLe] at h1 h2
  rw [show ((4 : Nat) : Int) = 4 from rfl] at h1 h2
  rw [← hq, ← Int.natCast_add] at h2
  obtain ⟨W, hWe⟩ : ∃ z : Nat, z = L + q := ⟨_, rfl⟩
  have hWb : W ≤ 1000 := by omega
  have e1 : (L : Int) + words % 300 = (W : Int) := by rw [← Int.tmod_eq_emod_of_nonneg hw0, ← hq, hWe, Int.natCast_add]
  rw [← hWe] at h2
  obtain ⟨k3, h3⟩ := (rTransform l hW k (by omega) 0 (by decide) (by omega) hl.symm).rounds
  obtain ⟨z, hz⟩ : ∃ z, z = tb l.length (tr k 0 (el l)) := ⟨_, rfl⟩
  have hzl : z.length = l.length := by rw [hz, tb_len]
  obtain ⟨k4, h4⟩ := (same_yes z z (by omega) rfl).rounds
  have HE := Aside0.mk (show nwl l RR CC a b k 0 5 = z by rw [hz]; exact long_law l a b k 0 RR CC hF.r hF.c hF.k hF.ab hF.l)
  have HF := Aside0.mk hf
  have H1 := Aside0.mk h1
  have H2 := Aside0.mk h2
  rw [← hz] at h3
  have H3 := Aside0.mk h3
  have H4 := Aside0.mk h4
  have HZ := Aside0.mk hz
  have HW := Aside0.mk hW
  have HLn := Aside0.mk hl
  have E1 := Aside0.mk e1
  clear hf h1 h2 h3 h4 hps hLe hq hWe hz hW hl e1
  have HB := Aside0.mk (Below.refl w.heap.size w)
  have HL := Aside0.mk hI
  have HT := Aside0.mk hT
  have f1 : decide ((l.length : Int) > 64) = false := decide_eq_false (by omega)
  have f2 : decide ((64 : Int) < (l.length : Int)) = false := decide_eq_false (by omega)
  have f3 : decide ((k : Int) < 0) = false := decide_eq_false (by omega)
  clear hI hT
  go_enter Tryz.func3, Tryz.ntmps3
  go_wp2_with fail
  with_reducible refine (awake_calls _ (HT.out.below HB.out)).mono ?_
  rintro e w1 ⟨rfl, hb⟩
  have HB1 := Aside0.mk (below_then HB.out HB.out.size hb)
  have HL1 := Aside0.mk (HL.out.below hb)
  clear hb HB HL
  go_wp2_with fail
  with_reducible refine (abacistref03_Fits.calls kf (l.length : Int) (k : Int) _ HF.out).mono ?_
  rintro e w2 ⟨rfl, hd2⟩
  have HB2 := Aside0.mk (below_then HB1.out HB1.out.size hd2.below)
  have HL2 := Aside0.mk (HL1.out.below hd2.below)
  clear hd2 HB1 HL1
  go_wp2_with fail
  with_reducible refine (abacistref24_Least.calls k1 (k : Int) 4 (L : Int) _ H1.out).mono ?_
  rintro e w3 ⟨rfl, hd3⟩
  have HB3 := Aside0.mk (below_then HB2.out HB2.out.size hd3.below)
  have HL3 := Aside0.mk (HL2.out.below hd3.below)
  clear hd3 HB2 HL2
  go_wp2_with fail
  rw [E1.out]
  with_reducible refine (plan_Passes.calls k2 (k : Int) 0 4 (W : Int) _ 0 _ H2.out).mono ?_
  rintro e w4 ⟨v, rfl, hR, hb⟩
  have HB4 := Aside0.mk (below_then HB3.out HB3.out.size hb)
  have HL4 := Aside0.mk (HL3.out.below hb)
  obtain ⟨Ap, cp, rfl, hcp, hCp⟩ := Kd.R_reads hR
  rw [show (lgl RR CC k 0).length = 5 from rfl] at hCp ⊢
  obtain ⟨ad, q0, hx⟩ := at_T37 hCp 0 (by decide) (by decide)
  cases q0
  clear hx
  have HP4 := Aside0.mk hCp
  clear hb hR hcp hCp HB3 HL3
  obtain ⟨adt, qt, t0, t1, t2, t3, t4, t5, t6, t7⟩ := at_T37 HP4.out 0 (by decide) (by decide)
  cases qt
  rw [show rd_T37 (lgl RR CC k 0) 0 = ps (RR : Int) (CC : Int) 0 (-1) 1 1 0 1 from rfl] at t0 t1 t2 t3 t4 t5 t6 t7
  simp only [show (0 : Int).toNat * 8 = 0 from rfl, ps] at t0 t1 t2 t3 t4 t5 t6 t7
  rw [show ad.add 0 = ad from by cases ad; rfl] at t0 t1 t2 t3 t4 t5 t6 t7
  obtain ⟨ads, qs, s0, s1, s2, s3, s4, s5, s6, s7⟩ := at_T37 HP4.out 4 (by decide) (by decide)
  cases qs
  rw [show rd_T37 (lgl RR CC k 0) 4 = ps (RR : Int) (CC : Int) 0 (-1) 1 1 2 3 from rfl] at s0 s1 s2 s3 s4 s5 s6 s7
  simp only [show (4 : Int).toNat * 8 = 32 from rfl, ps] at s0 s1 s2 s3 s4 s5 s6 s7
  simp only [show ad.add 32 = (⟨ad.block, ad.off + 32, none⟩ : Addr) from rfl] at s0 s1 s2 s3 s4 s5 s6 s7
  have e4 : wrap64 (4 : Int) = 4 := w64l _ (by decide) (by decide)
  go_wp2_with (first | ((with_reducible refine gate_dst (N := 75) rfl ?_); refine Kd.R_lit (Kd.int .u64) _ 33 ?hg (N := 75) ?hd (xs := []) (inner := []) (ok := fun _ => True) (okp := fun _ => True) ?hr ?hp (fun _ hk => hk) trivial (Below.refl _ _) (Nat.le_refl _) (by simp) ?_; (case hd => rfl); (case hg => rfl); (case hr => first | (go_simp; done) | (go_simp; rfl)); (case hp => exact (Reps.none _ _)); intro v5 w5 ho hb hg_ hnew_; have HOx := Aside0.mk ho; have HBx := Aside0.mk hb; clear hg_ hnew_ ho hb) | ((with_reducible refine gate_builtin (b := .append) (xs := #[.tmp 75, .tmp 76]) rfl ?_); at_builtin; refine Kd.R_append_rows (Kd.int .u64) (w0 := w4) w4.heap.size rfl (.tmp 75) (.tmp 76) 22 33 (.int .u64 0) 8 rfl Tryz.underlying22 info33 rfl (by decide) (by omega) v5 [] (l) _ _ _ (fun _ => True) (fun _ => False) rfl rfl ?aO ?aR (fun _ _ h => h) (fun _ h => h.elim) ?aF ?aB ?aS ?aL ?_; (case aR => exact (Kd.C_below (HL4.out.r) HBx.out)); (case aB => exact HBx.out); (case aF => exact (fun _ _ => trivial)); (case aO => exact HOx.out); (case aS => exact HBx.out.size); (case aL => (simp only [List.length_nil]; omega)); intro v6 w6 ho2 hb2 hg_ hat_; rw [List.nil_append] at ho2; clear hg_ hat_; clear HOx HBx; obtain ⟨Am, cm, hv, hlm, hcm⟩ := Kd.R_reads ho2; subst hv; have HM5 := Aside0.mk (In.mk hcm hlm); have HB5 := Aside0.mk (below_then HB4.out HB4.out.size hb2); have HL5 := Aside0.mk (HL4.out.below hb2); have HP5 := Aside0.mk (Kd.C_below HP4.out hb2); clear hcm hlm ho2 hb2 HB4 HL4 HP4; clear t0 t1 t2 t3 t4 t5 t6 t7 s0 s1 s2 s3 s4 s5 s6 s7 e4))
  have HX5 := Aside0.mk (show Mw w _ A c l Am cm ((nwl l RR CC a b k 0) 0) ad 5 (lgl RR CC k 0) from ⟨HM5.out, HB5.out, HL5.out, HP5.out⟩)
  clear HM5 HB5 HL5 HP5
  go_loopw [10, 11] (fun v10 v11 wr => ∃ (i : Nat) (Ai : Option Addr) (ci : Nat), v10 = .slice Ai l.length ci ∧ v11 = .int .i64 i ∧ i ≤ 5 ∧ Aside0 (Mw w wr A c l Ai ci ((nwl l RR CC a b k 0) i) ad 5 (lgl RR CC k 0))) (fun _ v11 _ => 5 - (intOf v11).toNat)
  case atStart => exact ⟨0, Am, cm, rfl, rfl, Nat.zero_le _, HX5⟩
  case round =>
    clear HX5
    obtain ⟨i, Ai, ci, rfl, rfl, hi, HX⟩ := hrel
    rcases (by omega : i = 0 ∨ i = 1 ∨ i = 2 ∨ i = 3 ∨ i = 4 ∨ i = 5) with rfl | rfl | rfl | rfl | rfl | rfl
    · rw [show ((0 : Nat) : Int) = 0 from rfl]
      go_wp2_with fail
      have HPd := Aside0.mk HX.out.p
      obtain ⟨adt, qt, t0, t1, t2, t3, t4, t5, t6, t7⟩ := at_T37 HPd.out 0 (by decide) (by decide)
      cases qt
      rw [show rd_T37 (lgl RR CC k 0) 0 = ps (RR : Int) (CC : Int) 0 (-1) 1 1 0 1 from rfl] at t0 t1 t2 t3 t4 t5 t6 t7
      simp only [show (0 : Int).toNat * 8 = 0 from rfl, ps] at t0 t1 t2 t3 t4 t5 t6 t7
      rw [show ad.add 0 = ad from by cases ad; rfl] at t0 t1 t2 t3 t4 t5 t6 t7
      have e39 : wrap64 (1 : Int) = 1 := w64l _ (by decide) (by decide)
      go_quiet (fail)
      go_wp2_with fail
      clear t0 t1 t2 t3 t4 t5 t6 t7 e39 
      with_reducible refine (pass5_0 k l RR CC a b 0 hF HW.out (by decide) _ (HX.out.below (pw_below_drewN (Below.refl _ _) _)).now (HT.out.below (HX.out.below (pw_below_drewN (Below.refl _ _) _)).b).bits).mono ?_
      rintro e w7 ⟨A7, c7, rfl, hm, hb⟩
      have hy := (HX.out.below (pw_below_drewN (Below.refl _ _) _)).below hb
      have HX7 := Aside0.mk (show Mw w w7 A c l A7 c7 ((nwl l RR CC a b k 0) 1) ad 5 (lgl RR CC k 0) from ⟨hm, hy.b, hy.l, hy.p⟩)
      clear hm hb hy HX HPd
      go_wp2
      go_roundw
      case rel => exact ⟨1, A7, c7, rfl, by go_num, by decide, HX7⟩
      case measure => simp [intOf]
    · rw [show ((1 : Nat) : Int) = 1 from rfl]
      go_wp2_with fail
      have HPd := Aside0.mk HX.out.p
      obtain ⟨adt, qt, t0, t1, t2, t3, t4, t5, t6, t7⟩ := at_T37 HPd.out 1 (by decide) (by decide)
      cases qt
      rw [show rd_T37 (lgl RR CC k 0) 1 = ps (CC : Int) (RR : Int) 0 k 1 2 1 2 from rfl] at t0 t1 t2 t3 t4 t5 t6 t7
      simp only [show (1 : Int).toNat * 8 = 8 from rfl, ps] at t0 t1 t2 t3 t4 t5 t6 t7
      simp only [show ad.add 8 = (⟨ad.block, ad.off + 8, none⟩ : Addr) from rfl] at t0 t1 t2 t3 t4 t5 t6 t7
      obtain ⟨ads, qs, s0, s1, s2, s3, s4, s5, s6, s7⟩ := at_T37 HPd.out 0 (by decide) (by decide)
      cases qs
      rw [show rd_T37 (lgl RR CC k 0) 0 = ps (RR : Int) (CC : Int) 0 (-1) 1 1 0 1 from rfl] at s0 s1 s2 s3 s4 s5 s6 s7
      simp only [show (0 : Int).toNat * 8 = 0 from rfl, ps] at s0 s1 s2 s3 s4 s5 s6 s7
      rw [show ad.add 0 = ad from by cases ad; rfl] at s0 s1 s2 s3 s4 s5 s6 s7
      have e39 : wrap64 (2 : Int) = 2 := w64l _ (by decide) (by decide)
      have e30 : wrap64 (0 : Int) = 0 := w64l _ (by decide) (by decide)
      go_quiet (fail)
      go_wp2_with fail
      clear t0 t1 t2 t3 t4 t5 t6 t7 e39 e30 s0 s1 s2 s3 s4 s5 s6 s7
      with_reducible refine (pass5_1 k l RR CC a b 0 hF HW.out (by decide) _ (HX.out.below (pw_below_drewN (Below.refl _ _) _)).now (HT.out.below (HX.out.below (pw_below_drewN (Below.refl _ _) _)).b).bits).mono ?_
      rintro e w7 ⟨A7, c7, rfl, hm, hb⟩
      have hy := (HX.out.below (pw_below_drewN (Below.refl _ _) _)).below hb
      have HX7 := Aside0.mk (show Mw w w7 A c l A7 c7 ((nwl l RR CC a b k 0) 2) ad 5 (lgl RR CC k 0) from ⟨hm, hy.b, hy.l, hy.p⟩)
      clear hm hb hy HX HPd
      go_wp2
      go_roundw
      case rel => exact ⟨2, A7, c7, rfl, by go_num, by decide, HX7⟩
      case measure => simp [intOf]
    · rw [show ((2 : Nat) : Int) = 2 from rfl]
      go_wp2_with fail
      have HPd := Aside0.mk HX.out.p
      obtain ⟨adt, qt, t0, t1, t2, t3, t4, t5, t6, t7⟩ := at_T37 HPd.out 2 (by decide) (by decide)
      cases qt
      rw [show rd_T37 (lgl RR CC k 0) 2 = ps (CC : Int) (RR : Int) 0 (-1) 1 1 2 1 from rfl] at t0 t1 t2 t3 t4 t5 t6 t7
      simp only [show (2 : Int).toNat * 8 = 16 from rfl, ps] at t0 t1 t2 t3 t4 t5 t6 t7
      simp only [show ad.add 16 = (⟨ad.block, ad.off + 16, none⟩ : Addr) from rfl] at t0 t1 t2 t3 t4 t5 t6 t7
      obtain ⟨ads, qs, s0, s1, s2, s3, s4, s5, s6, s7⟩ := at_T37 HPd.out 1 (by decide) (by decide)
      cases qs
      rw [show rd_T37 (lgl RR CC k 0) 1 = ps (CC : Int) (RR : Int) 0 k 1 2 1 2 from rfl] at s0 s1 s2 s3 s4 s5 s6 s7
      simp only [show (1 : Int).toNat * 8 = 8 from rfl, ps] at s0 s1 s2 s3 s4 s5 s6 s7
      simp only [show ad.add 8 = (⟨ad.block, ad.off + 8, none⟩ : Addr) from rfl] at s0 s1 s2 s3 s4 s5 s6 s7
      have e39 : wrap64 (3 : Int) = 3 := w64l _ (by decide) (by decide)
      have e30 : wrap64 (1 : Int) = 1 := w64l _ (by decide) (by decide)
      go_quiet (fail)
      go_wp2_with fail
      clear t0 t1 t2 t3 t4 t5 t6 t7 e39 e30 s0 s1 s2 s3 s4 s5 s6 s7
      with_reducible refine (pass5_2 k l RR CC a b 0 hF HW.out (by decide) _ (HX.out.below (pw_below_drewN (Below.refl _ _) _)).now (HT.out.below (HX.out.below (pw_below_drewN (Below.refl _ _) _)).b).bits).mono ?_
      rintro e w7 ⟨A7, c7, rfl, hm, hb⟩
      have hy := (HX.out.below (pw_below_drewN (Below.refl _ _) _)).below hb
      have HX7 := Aside0.mk (show Mw w w7 A c l A7 c7 ((nwl l RR CC a b k 0) 3) ad 5 (lgl RR CC k 0) from ⟨hm, hy.b, hy.l, hy.p⟩)
      clear hm hb hy HX HPd
      go_wp2
      go_roundw
      case rel => exact ⟨3, A7, c7, rfl, by go_num, by decide, HX7⟩
      case measure => simp [intOf]
    · rw [show ((3 : Nat) : Int) = 3 from rfl]
      go_wp2_with fail
      have HPd := Aside0.mk HX.out.p
      obtain ⟨adt, qt, t0, t1, t2, t3, t4, t5, t6, t7⟩ := at_T37 HPd.out 3 (by decide) (by decide)
      cases qt
      rw [show rd_T37 (lgl RR CC k 0) 3 = ps (RR : Int) (CC : Int) 0 (-1) (sh k 0) 2 1 2 from rfl] at t0 t1 t2 t3 t4 t5 t6 t7
      simp only [show (3 : Int).toNat * 8 = 24 from rfl, ps] at t0 t1 t2 t3 t4 t5 t6 t7
      simp only [show ad.add 24 = (⟨ad.block, ad.off + 24, none⟩ : Addr) from rfl] at t0 t1 t2 t3 t4 t5 t6 t7
      obtain ⟨ads, qs, s0, s1, s2, s3, s4, s5, s6, s7⟩ := at_T37 HPd.out 2 (by decide) (by decide)
      cases qs
      rw [show rd_T37 (lgl RR CC k 0) 2 = ps (CC : Int) (RR : Int) 0 (-1) 1 1 2 1 from rfl] at s0 s1 s2 s3 s4 s5 s6 s7
      simp only [show (2 : Int).toNat * 8 = 16 from rfl, ps] at s0 s1 s2 s3 s4 s5 s6 s7
      simp only [show ad.add 16 = (⟨ad.block, ad.off + 16, none⟩ : Addr) from rfl] at s0 s1 s2 s3 s4 s5 s6 s7
      have e39 : wrap64 (4 : Int) = 4 := w64l _ (by decide) (by decide)
      have e30 : wrap64 (2 : Int) = 2 := w64l _ (by decide) (by decide)
      go_quiet (fail)
      go_wp2_with fail
      clear t0 t1 t2 t3 t4 t5 t6 t7 e39 e30 s0 s1 s2 s3 s4 s5 s6 s7
      with_reducible refine (pass5_3 k l RR CC a b 0 hF HW.out (by decide) _ (HX.out.below (pw_below_drewN (Below.refl _ _) _)).now (HT.out.below (HX.out.below (pw_below_drewN (Below.refl _ _) _)).b).bits).mono ?_
      rintro e w7 ⟨A7, c7, rfl, hm, hb⟩
      have hy := (HX.out.below (pw_below_drewN (Below.refl _ _) _)).below hb
      have HX7 := Aside0.mk (show Mw w w7 A c l A7 c7 ((nwl l RR CC a b k 0) 4) ad 5 (lgl RR CC k 0) from ⟨hm, hy.b, hy.l, hy.p⟩)
      clear hm hb hy HX HPd
      go_wp2
      go_roundw
      case rel => exact ⟨4, A7, c7, rfl, by go_num, by decide, HX7⟩
      case measure => simp [intOf]
    · rw [show ((4 : Nat) : Int) = 4 from rfl]
      go_wp2_with fail
      have HPd := Aside0.mk HX.out.p
      obtain ⟨adt, qt, t0, t1, t2, t3, t4, t5, t6, t7⟩ := at_T37 HPd.out 4 (by decide) (by decide)
      cases qt
      rw [show rd_T37 (lgl RR CC k 0) 4 = ps (RR : Int) (CC : Int) 0 (-1) 1 1 2 3 from rfl] at t0 t1 t2 t3 t4 t5 t6 t7
      simp only [show (4 : Int).toNat * 8 = 32 from rfl, ps] at t0 t1 t2 t3 t4 t5 t6 t7
      simp only [show ad.add 32 = (⟨ad.block, ad.off + 32, none⟩ : Addr) from rfl] at t0 t1 t2 t3 t4 t5 t6 t7
      obtain ⟨ads, qs, s0, s1, s2, s3, s4, s5, s6, s7⟩ := at_T37 HPd.out 3 (by decide) (by decide)
      cases qs
      rw [show rd_T37 (lgl RR CC k 0) 3 = ps (RR : Int) (CC : Int) 0 (-1) (sh k 0) 2 1 2 from rfl] at s0 s1 s2 s3 s4 s5 s6 s7
      simp only [show (3 : Int).toNat * 8 = 24 from rfl, ps] at s0 s1 s2 s3 s4 s5 s6 s7
      simp only [show ad.add 24 = (⟨ad.block, ad.off + 24, none⟩ : Addr) from rfl] at s0 s1 s2 s3 s4 s5 s6 s7
      have e39 : wrap64 (5 : Int) = 5 := w64l _ (by decide) (by decide)
      have e30 : wrap64 (3 : Int) = 3 := w64l _ (by decide) (by decide)
      go_quiet (fail)
      go_wp2_with fail
      clear t0 t1 t2 t3 t4 t5 t6 t7 e39 e30 s0 s1 s2 s3 s4 s5 s6 s7
      with_reducible refine (pass5_4 k l RR CC a b 0 hF HW.out (by decide) _ (HX.out.below (pw_below_drewN (Below.refl _ _) _)).now (HT.out.below (HX.out.below (pw_below_drewN (Below.refl _ _) _)).b).bits).mono ?_
      rintro e w7 ⟨A7, c7, rfl, hm, hb⟩
      have hy := (HX.out.below (pw_below_drewN (Below.refl _ _) _)).below hb
      have HX7 := Aside0.mk (show Mw w w7 A c l A7 c7 ((nwl l RR CC a b k 0) 5) ad 5 (lgl RR CC k 0) from ⟨hm, hy.b, hy.l, hy.p⟩)
      clear hm hb hy HX HPd
      go_wp2
      go_roundw
      case rel => exact ⟨5, A7, c7, rfl, by go_num, by decide, HX7⟩
      case measure => simp [intOf]
    · rw [show ((5 : Nat) : Int) = 5 from rfl]
      go_wp2_with fail
      with_reducible refine (abacistref08_Transform.calls k3 A c l (k : Int) 0 z _ HX.out.l.r HX.out.l.c H3.out).mono ?_
      rintro e w8 ⟨v, rfl, hr, hb⟩
      obtain ⟨A8, c8, rfl, hl8, hc8⟩ := Kd.R_reads hr
      have HN8 := Aside0.mk (In.mk hc8 hl8)
      have HX8 := Aside0.mk (HX.out.below hb)
      clear hr hb hl8 hc8 HX
      have hm9 := HX8.out.now
      rw [HE.out] at hm9
      have HM9 := Aside0.mk hm9
      clear hm9
      rw [hzl]
      go_wp2_with fail
      have hs := abacistref04_Same.calls k4 Ai ci z A8 c8 z true _ HM9.out.r HM9.out.c HN8.out.r HN8.out.c H4.out
      rw [hzl] at hs
      with_reducible refine hs.mono ?_
      clear hs
      rintro e w9 ⟨rfl, hb⟩
      have HB9 := Aside0.mk (below_then HX8.out.b HX8.out.b.size hb.below)
      clear hb
      go_wp2_with fail
      go_ret
      exact ⟨rfl, HB9.out⟩
end Go.Proofs.YtpnkcjnemoompaaGreatDoor.Kern
end
section
namespace Go.Proofs.YtpnkcjnemoompaaGreatDoor.Kern
open Go.RowKit Go.Proofs.YtpnkcjnemoompaaGreatDoor.Plan Go.Proofs.YtpnkcjnemoompaaGreatDoor Go.Proofs.YtpnkcjnemoompaaGreatDoor.Ext Go.Proofs.YtpnkcjnemoompaaGreatDoor.PPlan Go.Proofs.YtpnkcjnemoompaaGreatDoor.PFft Go.Proofs.YtpnkcjnemoompaaGreatDoor.Pure Go.Proofs.YtpnkcjnemoompaaGreatDoor.Obj Go.Proofs.YtpnkcjnemoompaaGreatDoor.Fft Go.Proofs.YtpnkcjnemoompaaGreatDoorW.PrintWords Go.Proofs.YtpnkcjnemoompaaGreatDoorW.PrintLast Go.Proofs.YtpnkcjnemoompaaGreatDoorW.PrintMore
set_option linter.unusedVariables false
set_option linter.unusedSimpArgs false
set_option maxRecDepth 100000
set_option maxHeartbeats 8000000 in
theorem means_5_1 (A : Option Addr) (c : Nat) (l : List Int) (words : Int) (k kf : Nat) (RR CC a b : Nat) (hk : k ≤ 6) (hF : LF l RR CC a b k) (hl : 2 ^ k = l.length) (hw0 : 0 ≤ words) (hw1 : words ≤ 65535) (hf : abacistref03_Fits.f kf (l.length : Int) = some (k : Int)) (hps : psl k 1 4 (((2 * 2 ^ ((k + 1) / 2) + 4 : Nat) : Int) + words.tmod 300) = lgl RR CC k 1) (hW : Ws l) (w : World) (hI : In w A c l) (hT : TabP w) :
    Calls Tryz.prog 3 #[.slice A l.length c, .int .i64 1, .int .u16 words] w fun e w' => e = .returned (.bool true) ∧ Below w.heap.size w w' := by
  have hL : l.length ≤ 64 := by rw [← hl]; exact Nat.le_trans (Nat.pow_le_pow_right (by decide) hk) (by decide)
  have hp : 0 < l.length := by rw [← hl]; exact Nat.two_pow_pos _
  obtain ⟨L, hLe⟩ : ∃ z : Nat, z = 2 * 2 ^ ((k + 1) / 2) + 4 := ⟨_, rfl⟩
  have hLb : L ≤ 20 := by rw [hLe]; have := Nat.pow_le_pow_right (show 0 < 2 by decide) (show (k + 1) / 2 ≤ 3 by omega); omega
  obtain ⟨q, hq⟩ : ∃ z : Nat, (z : Int) = words.tmod 300 := ⟨(words.tmod 300).toNat, Int.toNat_of_nonneg (by rw [Int.tmod_eq_emod_of_nonneg hw0]; omega)⟩
  have hqb : q < 300 := by have := Int.tmod_eq_emod_of_nonneg (b := 300) hw0; omega
  obtain ⟨k1, h1⟩ := (Least2 k (by omega) 4 (by decide)).rounds
  obtain ⟨k2, h2⟩ := (passes_ok k 4 1 (((2 * 2 ^ ((k + 1) / 2) + 4 : Nat) : Int) + words.tmod 300) (by simp [goodq, perq]; omega) (by decide) (by rw [← hq]; omega)).rounds
  rw [hps] at h2
  rw [← hLe] at h1 h2
  rw [show ((4 : Nat) : Int) = 4 from rfl] at h1 h2
  rw [← hq, ← Int.natCast_add] at h2
  obtain ⟨W, hWe⟩ : ∃ z : Nat, z = L + q := ⟨_, rfl⟩
  have hWb : W ≤ 1000 := by omega
  have e1 : (L : Int) + words % 300 = (W : Int) := by rw [← Int.tmod_eq_emod_of_nonneg hw0, ← hq, hWe, Int.natCast_add]
  rw [← hWe] at h2
  obtain ⟨k3, h3⟩ := (rTransform l hW k (by omega) 1 (by decide) (by omega) hl.symm).rounds
  obtain ⟨z, hz⟩ : ∃ z, z = tb l.length (tr k 1 (el l)) := ⟨_, rfl⟩
  have hzl : z.length = l.length := by rw [hz, tb_len]
  obtain ⟨k4, h4⟩ := (same_yes z z (by omega) rfl).rounds
  have HE := Aside0.mk (show nwl l RR CC a b k 1 5 = z by rw [hz]; exact long_law l a b k 1 RR CC hF.r hF.c hF.k hF.ab hF.l)
  have HF := Aside0.mk hf
  have H1 := Aside0.mk h1
  have H2 := Aside0.mk h2
  rw [← hz] at h3
  have H3 := Aside0.mk h3
  have H4 := Aside0.mk h4
  have HZ := Aside0.mk hz
  have HW := Aside0.mk hW
  have HLn := Aside0.mk hl
  have E1 := Aside0.mk e1
  clear hf h1 h2 h3 h4 hps hLe hq hWe hz hW hl e1
  have HB := Aside0.mk (Below.refl w.heap.size w)
  have HL := Aside0.mk hI
  have HT := Aside0.mk hT
  have f1 : decide ((l.length : Int) > 64) = false := decide_eq_false (by omega)
  have f2 : decide ((64 : Int) < (l.length : Int)) = false := decide_eq_false (by omega)
  have f3 : decide ((k : Int) < 0) = false := decide_eq_false (by omega)
  clear hI hT
  go_enter Tryz.func3, Tryz.ntmps3
  go_wp2_with fail
  with_reducible refine (awake_calls _ (HT.out.below HB.out)).mono ?_
  rintro e w1 ⟨rfl, hb⟩
  have HB1 := Aside0.mk (below_then HB.out HB.out.size hb)
  have HL1 := Aside0.mk (HL.out.below hb)
  clear hb HB HL
  go_wp2_with fail
  with_reducible refine (abacistref03_Fits.calls kf (l.length : Int) (k : Int) _ HF.out).mono ?_
  rintro e w2 ⟨rfl, hd2⟩
  have HB2 := Aside0.mk (below_then HB1.out HB1.out.size hd2.below)
  have HL2 := Aside0.mk (HL1.out.below hd2.below)
  clear hd2 HB1 HL1
  go_wp2_with fail
  with_reducible refine (abacistref24_Least.calls k1 (k : Int) 4 (L : Int) _ H1.out).mono ?_
  rintro e w3 ⟨rfl, hd3⟩
  have HB3 := Aside0.mk (below_then HB2.out HB2.out.size hd3.below)
  have HL3 := Aside0.mk (HL2.out.below hd3.below)
  clear hd3 HB2 HL2
  go_wp2_with fail
  rw [E1.out]
  with_reducible refine (plan_Passes.calls k2 (k : Int) 1 4 (W : Int) _ 0 _ H2.out).mono ?_
  rintro e w4 ⟨v, rfl, hR, hb⟩
  have HB4 := Aside0.mk (below_then HB3.out HB3.out.size hb)
  have HL4 := Aside0.mk (HL3.out.below hb)
  obtain ⟨Ap, cp, rfl, hcp, hCp⟩ := Kd.R_reads hR
  rw [show (lgl RR CC k 1).length = 5 from rfl] at hCp ⊢
  obtain ⟨ad, q0, hx⟩ := at_T37 hCp 0 (by decide) (by decide)
  cases q0
  clear hx
  have HP4 := Aside0.mk hCp
  clear hb hR hcp hCp HB3 HL3
  obtain ⟨adt, qt, t0, t1, t2, t3, t4, t5, t6, t7⟩ := at_T37 HP4.out 0 (by decide) (by decide)
  cases qt
  rw [show rd_T37 (lgl RR CC k 1) 0 = ps (RR : Int) (CC : Int) 0 (-1) 1 1 0 1 from rfl] at t0 t1 t2 t3 t4 t5 t6 t7
  simp only [show (0 : Int).toNat * 8 = 0 from rfl, ps] at t0 t1 t2 t3 t4 t5 t6 t7
  rw [show ad.add 0 = ad from by cases ad; rfl] at t0 t1 t2 t3 t4 t5 t6 t7
  obtain ⟨ads, qs, s0, s1, s2, s3, s4, s5, s6, s7⟩ := at_T37 HP4.out 4 (by decide) (by decide)
  cases qs
  rw [show rd_T37 (lgl RR CC k 1) 4 = ps (RR : Int) (CC : Int) 0 (-1) 1 1 2 3 from rfl] at s0 s1 s2 s3 s4 s5 s6 s7
  simp only [show (4 : Int).toNat * 8 = 32 from rfl, ps] at s0 s1 s2 s3 s4 s5 s6 s7
  simp only [show ad.add 32 = (⟨ad.block, ad.off + 32, none⟩ : Addr) from rfl] at s0 s1 s2 s3 s4 s5 s6 s7
  have e4 : wrap64 (4 : Int) = 4 := w64l _ (by decide) (by decide)
  go_wp2_with (first | ((with_reducible refine gate_dst (N := 75) rfl ?_); refine Kd.R_lit (Kd.int .u64) _ 33 ?hg (N := 75) ?hd (xs := []) (inner := []) (ok := fun _ => True) (okp := fun _ => True) ?hr ?hp (fun _ hk => hk) trivial (Below.refl _ _) (Nat.le_refl _) (by simp) ?_; (case hd => rfl); (case hg => rfl); (case hr => first | (go_simp; done) | (go_simp; rfl)); (case hp => exact (Reps.none _ _)); intro v5 w5 ho hb hg_ hnew_; have HOx := Aside0.mk ho; have HBx := Aside0.mk hb; clear hg_ hnew_ ho hb) | ((with_reducible refine gate_builtin (b := .append) (xs := #[.tmp 75, .tmp 76]) rfl ?_); at_builtin; refine Kd.R_append_rows (Kd.int .u64) (w0 := w4) w4.heap.size rfl (.tmp 75) (.tmp 76) 22 33 (.int .u64 0) 8 rfl Tryz.underlying22 info33 rfl (by decide) (by omega) v5 [] (l) _ _ _ (fun _ => True) (fun _ => False) rfl rfl ?aO ?aR (fun _ _ h => h) (fun _ h => h.elim) ?aF ?aB ?aS ?aL ?_; (case aR => exact (Kd.C_below (HL4.out.r) HBx.out)); (case aB => exact HBx.out); (case aF => exact (fun _ _ => trivial)); (case aO => exact HOx.out); (case aS => exact HBx.out.size); (case aL => (simp only [List.length_nil]; omega)); intro v6 w6 ho2 hb2 hg_ hat_; rw [List.nil_append] at ho2; clear hg_ hat_; clear HOx HBx; obtain ⟨Am, cm, hv, hlm, hcm⟩ := Kd.R_reads ho2; subst hv; have HM5 := Aside0.mk (In.mk hcm hlm); have HB5 := Aside0.mk (below_then HB4.out HB4.out.size hb2); have HL5 := Aside0.mk (HL4.out.below hb2); have HP5 := Aside0.mk (Kd.C_below HP4.out hb2); clear hcm hlm ho2 hb2 HB4 HL4 HP4; clear t0 t1 t2 t3 t4 t5 t6 t7 s0 s1 s2 s3 s4 s5 s6 s7 e4))
  have HX5 := Aside0.mk (show Mw w _ A c l Am cm ((nwl l RR CC a b k 1) 0) ad 5 (lgl RR CC k 1) from ⟨HM5.out, HB5.out, HL5.out, HP5.out⟩)
  clear HM5 HB5 HL5 HP5
  go_loopw [10, 11] (fun v10 v11 wr => ∃ (i : Nat) (Ai : Option Addr) (ci : Nat), v10 = .slice Ai l.length ci ∧ v11 = .int .i64 i ∧ i ≤ 5 ∧ Aside0 (Mw w wr A c l Ai ci ((nwl l RR CC a b k 1) i) ad 5 (lgl RR CC k 1))) (fun _ v11 _ => 5 - (intOf v11).toNat)
  case atStart => exact ⟨0, Am, cm, rfl, rfl, Nat.zero_le _, HX5⟩
  case round =>
    clear HX5
    obtain ⟨i, Ai, ci, rfl, rfl, hi, HX⟩ := hrel
    rcases (by omega : i = 0 ∨ i = 1 ∨ i = 2 ∨ i = 3 ∨ i = 4 ∨ i = 5) with rfl | rfl | rfl | rfl | rfl | rfl
    · rw [show ((0 : Nat) : Int) = 0 from rfl]
      go_wp2_with fail
      have HPd := Aside0.mk HX.out.p
      obtain ⟨adt, qt, t0, t1, t2, t3, t4, t5, t6, t7⟩ := at_T37 HPd.out 0 (by decide) (by decide)
      cases qt
      rw [show rd_T37 (lgl RR CC k 1) 0 = ps (RR : Int) (CC : Int) 0 (-1) 1 1 0 1 from rfl] at t0 t1 t2 t3 t4 t5 t6 t7
      simp only [show (0 : Int).toNat * 8 = 0 from rfl, ps] at t0 t1 t2 t3 t4 t5 t6 t7
      rw [show ad.add 0 = ad from by cases ad; rfl] at t0 t1 t2 t3 t4 t5 t6 t7
      have e39 : wrap64 (1 : Int) = 1 := w64l _ (by decide) (by decide)
      go_quiet (fail)
      go_wp2_with fail
      clear t0 t1 t2 t3 t4 t5 t6 t7 e39 
      with_reducible refine (pass5_0 k l RR CC a b 1 hF HW.out (by decide) _ (HX.out.below (pw_below_drewN (Below.refl _ _) _)).now (HT.out.below (HX.out.below (pw_below_drewN (Below.refl _ _) _)).b).bits).mono ?_
      rintro e w7 ⟨A7, c7, rfl, hm, hb⟩
      have hy := (HX.out.below (pw_below_drewN (Below.refl _ _) _)).below hb
      have HX7 := Aside0.mk (show Mw w w7 A c l A7 c7 ((nwl l RR CC a b k 1) 1) ad 5 (lgl RR CC k 1) from ⟨hm, hy.b, hy.l, hy.p⟩)
      clear hm hb hy HX HPd
      go_wp2
      go_roundw
      case rel => exact ⟨1, A7, c7, rfl, by go_num, by decide, HX7⟩
      case measure => simp [intOf]
    · rw [show ((1 : Nat) : Int) = 1 from rfl]
      go_wp2_with fail
      have HPd := Aside0.mk HX.out.p
      obtain ⟨adt, qt, t0, t1, t2, t3, t4, t5, t6, t7⟩ := at_T37 HPd.out 1 (by decide) (by decide)
      cases qt
      rw [show rd_T37 (lgl RR CC k 1) 1 = ps (CC : Int) (RR : Int) 1 k 1 2 1 2 from rfl] at t0 t1 t2 t3 t4 t5 t6 t7
      simp only [show (1 : Int).toNat * 8 = 8 from rfl, ps] at t0 t1 t2 t3 t4 t5 t6 t7
      simp only [show ad.add 8 = (⟨ad.block, ad.off + 8, none⟩ : Addr) from rfl] at t0 t1 t2 t3 t4 t5 t6 t7
      obtain ⟨ads, qs, s0, s1, s2, s3, s4, s5, s6, s7⟩ := at_T37 HPd.out 0 (by decide) (by decide)
      cases qs
      rw [show rd_T37 (lgl RR CC k 1) 0 = ps (RR : Int) (CC : Int) 0 (-1) 1 1 0 1 from rfl] at s0 s1 s2 s3 s4 s5 s6 s7
      simp only [show (0 : Int).toNat * 8 = 0 from rfl, ps] at s0 s1 s2 s3 s4 s5 s6 s7
      rw [show ad.add 0 = ad from by cases ad; rfl] at s0 s1 s2 s3 s4 s5 s6 s7
      have e39 : wrap64 (2 : Int) = 2 := w64l _ (by decide) (by decide)
      have e30 : wrap64 (0 : Int) = 0 := w64l _ (by decide) (by decide)
      go_quiet (fail)
      go_wp2_with fail
      clear t0 t1 t2 t3 t4 t5 t6 t7 e39 e30 s0 s1 s2 s3 s4 s5 s6 s7
      with_reducible refine (pass5_1 k l RR CC a b 1 hF HW.out (by decide) _ (HX.out.below (pw_below_drewN (Below.refl _ _) _)).now (HT.out.below (HX.out.below (pw_below_drewN (Below.refl _ _) _)).b).bits).mono ?_
      rintro e w7 ⟨A7, c7, rfl, hm, hb⟩
      have hy := (HX.out.below (pw_below_drewN (Below.refl _ _) _)).below hb
      have HX7 := Aside0.mk (show Mw w w7 A c l A7 c7 ((nwl l RR CC a b k 1) 2) ad 5 (lgl RR CC k 1) from ⟨hm, hy.b, hy.l, hy.p⟩)
      clear hm hb hy HX HPd
      go_wp2
      go_roundw
      case rel => exact ⟨2, A7, c7, rfl, by go_num, by decide, HX7⟩
      case measure => simp [intOf]
    · rw [show ((2 : Nat) : Int) = 2 from rfl]
      go_wp2_with fail
      have HPd := Aside0.mk HX.out.p
      obtain ⟨adt, qt, t0, t1, t2, t3, t4, t5, t6, t7⟩ := at_T37 HPd.out 2 (by decide) (by decide)
      cases qt
      rw [show rd_T37 (lgl RR CC k 1) 2 = ps (CC : Int) (RR : Int) 0 (-1) 1 1 2 1 from rfl] at t0 t1 t2 t3 t4 t5 t6 t7
      simp only [show (2 : Int).toNat * 8 = 16 from rfl, ps] at t0 t1 t2 t3 t4 t5 t6 t7
      simp only [show ad.add 16 = (⟨ad.block, ad.off + 16, none⟩ : Addr) from rfl] at t0 t1 t2 t3 t4 t5 t6 t7
      obtain ⟨ads, qs, s0, s1, s2, s3, s4, s5, s6, s7⟩ := at_T37 HPd.out 1 (by decide) (by decide)
      cases qs
      rw [show rd_T37 (lgl RR CC k 1) 1 = ps (CC : Int) (RR : Int) 1 k 1 2 1 2 from rfl] at s0 s1 s2 s3 s4 s5 s6 s7
      simp only [show (1 : Int).toNat * 8 = 8 from rfl, ps] at s0 s1 s2 s3 s4 s5 s6 s7
      simp only [show ad.add 8 = (⟨ad.block, ad.off + 8, none⟩ : Addr) from rfl] at s0 s1 s2 s3 s4 s5 s6 s7
      have e39 : wrap64 (3 : Int) = 3 := w64l _ (by decide) (by decide)
      have e30 : wrap64 (1 : Int) = 1 := w64l _ (by decide) (by decide)
      go_quiet (fail)
      go_wp2_with fail
      clear t0 t1 t2 t3 t4 t5 t6 t7 e39 e30 s0 s1 s2 s3 s4 s5 s6 s7
      with_reducible refine (pass5_2 k l RR CC a b 1 hF HW.out (by decide) _ (HX.out.below (pw_below_drewN (Below.refl _ _) _)).now (HT.out.below (HX.out.below (pw_below_drewN (Below.refl _ _) _)).b).bits).mono ?_
      rintro e w7 ⟨A7, c7, rfl, hm, hb⟩
      have hy := (HX.out.below (pw_below_drewN (Below.refl _ _) _)).below hb
      have HX7 := Aside0.mk (show Mw w w7 A c l A7 c7 ((nwl l RR CC a b k 1) 3) ad 5 (lgl RR CC k 1) from ⟨hm, hy.b, hy.l, hy.p⟩)
      clear hm hb hy HX HPd
      go_wp2
      go_roundw
      case rel => exact ⟨3, A7, c7, rfl, by go_num, by decide, HX7⟩
      case measure => simp [intOf]
    · rw [show ((3 : Nat) : Int) = 3 from rfl]
      go_wp2_with fail
      have HPd := Aside0.mk HX.out.p
      obtain ⟨adt, qt, t0, t1, t2, t3, t4, t5, t6, t7⟩ := at_T37 HPd.out 3 (by decide) (by decide)
      cases qt
      rw [show rd_T37 (lgl RR CC k 1) 3 = ps (RR : Int) (CC : Int) 1 (-1) (sh k 1) 2 1 2 from rfl] at t0 t1 t2 t3 t4 t5 t6 t7
      simp only [show (3 : Int).toNat * 8 = 24 from rfl, ps] at t0 t1 t2 t3 t4 t5 t6 t7
      simp only [show ad.add 24 = (⟨ad.block, ad.off + 24, none⟩ : Addr) from rfl] at t0 t1 t2 t3 t4 t5 t6 t7
      obtain ⟨ads, qs, s0, s1, s2, s3, s4, s5, s6, s7⟩ := at_T37 HPd.out 2 (by decide) (by decide)
      cases qs
      rw [show rd_T37 (lgl RR CC k 1) 2 = ps (CC : Int) (RR : Int) 0 (-1) 1 1 2 1 from rfl] at s0 s1 s2 s3 s4 s5 s6 s7
      simp only [show (2 : Int).toNat * 8 = 16 from rfl, ps] at s0 s1 s2 s3 s4 s5 s6 s7
      simp only [show ad.add 16 = (⟨ad.block, ad.off + 16, none⟩ : Addr) from rfl] at s0 s1 s2 s3 s4 s5 s6 s7
      have e39 : wrap64 (4 : Int) = 4 := w64l _ (by decide) (by decide)
      have e30 : wrap64 (2 : Int) = 2 := w64l _ (by decide) (by decide)
      go_quiet (fail)
      go_wp2_with fail
      clear t0 t1 t2 t3 t4 t5 t6 t7 e39 e30 s0 s1 s2 s3 s4 s5 s6 s7
      with_reducible refine (pass5_3 k l RR CC a b 1 hF HW.out (by decide) _ (HX.out.below (pw_below_drewN (Below.refl _ _) _)).now (HT.out.below (HX.out.below (pw_below_drewN (Below.refl _ _) _)).b).bits).mono ?_
      rintro e w7 ⟨A7, c7, rfl, hm, hb⟩
      have hy := (HX.out.below (pw_below_drewN (Below.refl _ _) _)).below hb
      have HX7 := Aside0.mk (show Mw w w7 A c l A7 c7 ((nwl l RR CC a b k 1) 4) ad 5 (lgl RR CC k 1) from ⟨hm, hy.b, hy.l, hy.p⟩)
      clear hm hb hy HX HPd
      go_wp2
      go_roundw
      case rel => exact ⟨4, A7, c7, rfl, by go_num, by decide, HX7⟩
      case measure => simp [intOf]
    · rw [show ((4 : Nat) : Int) = 4 from rfl]
      go_wp2_with fail
      have HPd := Aside0.mk HX.out.p
      obtain ⟨adt, qt, t0, t1, t2, t3, t4, t5, t6, t7⟩ := at_T37 HPd.out 4 (by decide) (by decide)
      cases qt
      rw [show rd_T37 (lgl RR CC k 1) 4 = ps (RR : Int) (CC : Int) 0 (-1) 1 1 2 3 from rfl] at t0 t1 t2 t3 t4 t5 t6 t7
      simp only [show (4 : Int).toNat * 8 = 32 from rfl, ps] at t0 t1 t2 t3 t4 t5 t6 t7
      simp only [show ad.add 32 = (⟨ad.block, ad.off + 32, none⟩ : Addr) from rfl] at t0 t1 t2 t3 t4 t5 t6 t7
      obtain ⟨ads, qs, s0, s1, s2, s3, s4, s5, s6, s7⟩ := at_T37 HPd.out 3 (by decide) (by decide)
      cases qs
      rw [show rd_T37 (lgl RR CC k 1) 3 = ps (RR : Int) (CC : Int) 1 (-1) (sh k 1) 2 1 2 from rfl] at s0 s1 s2 s3 s4 s5 s6 s7
      simp only [show (3 : Int).toNat * 8 = 24 from rfl, ps] at s0 s1 s2 s3 s4 s5 s6 s7
      simp only [show ad.add 24 = (⟨ad.block, ad.off + 24, none⟩ : Addr) from rfl] at s0 s1 s2 s3 s4 s5 s6 s7
      have e39 : wrap64 (5 : Int) = 5 := w64l _ (by decide) (by decide)
      have e30 : wrap64 (3 : Int) = 3 := w64l _ (by decide) (by decide)
      go_quiet (fail)
      go_wp2_with fail
      clear t0 t1 t2 t3 t4 t5 t6 t7 e39 e30 s0 s1 s2 s3 s4 s5 s6 s7
      with_reducible refine (pass5_4 k l RR CC a b 1 hF HW.out (by decide) _ (HX.out.below (pw_below_drewN (Below.refl _ _) _)).now (HT.out.below (HX.out.below (pw_below_drewN (Below.refl _ _) _)).b).bits).mono ?_
      rintro e w7 ⟨A7, c7, rfl, hm, hb⟩
      have hy := (HX.out.below (pw_below_drewN (Below.refl _ _) _)).below hb
      have HX7 := Aside0.mk (show Mw w w7 A c l A7 c7 ((nwl l RR CC a b k 1) 5) ad 5 (lgl RR CC k 1) from ⟨hm, hy.b, hy.l, hy.p⟩)
      clear hm hb hy HX HPd
      go_wp2
      go_roundw
      case rel => exact ⟨5, A7, c7, rfl, by go_num, by decide, HX7⟩
      case measure => simp [intOf]
    · rw [show ((5 : Nat) : Int) = 5 from rfl]
      go_wp2_with fail
      with_reducible refine (abacistref08_Transform.calls k3 A c l (k : Int) 1 z _ HX.out.l.r HX.out.l.c H3.out).mono ?_
      rintro e w8 ⟨v, rfl, hr, hb⟩
      obtain ⟨A8, c8, rfl, hl8, hc8⟩ := Kd.R_reads hr
      have HN8 := Aside0.mk (In.mk hc8 hl8)
      have HX8 := Aside0.mk (HX.out.below hb)
      clear hr hb hl8 hc8 HX
      have hm9 := HX8.out.now
      rw [HE.out] at hm9
      have HM9 := Aside0.mk hm9
      clear hm9
      rw [hzl]
      go_wp2_with fail
      have hs := abacistref04_Same.calls k4 Ai ci z A8 c8 z true _ HM9.out.r HM9.out.c HN8.out.r HN8.out.c H4.out
      rw [hzl] at hs
      with_reducible refine hs.mono ?_
      clear hs
      rintro e w9 ⟨rfl, hb⟩
      have HB9 := Aside0.mk (below_then HX8.out.b HX8.out.b.size hb.below)
      clear hb
      go_wp2_with fail
      go_ret
      exact ⟨rfl, HB9.out⟩
end Go.Proofs.YtpnkcjnemoompaaGreatDoor.Kern
end
section
namespace Go.Proofs.YtpnkcjnemoompaaGreatDoor.Kern
open Go.RowKit Go.Proofs.YtpnkcjnemoompaaGreatDoor.Plan Go.Proofs.YtpnkcjnemoompaaGreatDoor Go.Proofs.YtpnkcjnemoompaaGreatDoor.Ext Go.Proofs.YtpnkcjnemoompaaGreatDoor.PPlan Go.Proofs.YtpnkcjnemoompaaGreatDoor.PFft Go.Proofs.YtpnkcjnemoompaaGreatDoor.Pure Go.Proofs.YtpnkcjnemoompaaGreatDoor.Obj Go.Proofs.YtpnkcjnemoompaaGreatDoor.Fft Go.Proofs.YtpnkcjnemoompaaGreatDoorW.PrintWords Go.Proofs.YtpnkcjnemoompaaGreatDoorW.PrintLast Go.Proofs.YtpnkcjnemoompaaGreatDoorW.PrintMore
set_option linter.unusedVariables false
set_option linter.unusedSimpArgs false
set_option maxRecDepth 100000
theorem PlanMeansRow (a0 : Option Addr) (len0 cap0 : Nat) (z0 : List Int) (d words : Int) (w : World)
    (w0 : (a0 = none ∧ len0 = 0 ∧ cap0 = 0 ∧ z0 = []) ∨ ∃ x, a0 = some x ∧ len0 ≤ cap0 ∧ cap0 ≤ maxLen ∧ z0.length = cap0 ∧ (∀ i, i < z0.length → w.cell? (x.add i) = some (.int .u64 (z0.getD i 0))) ∧ ∀ n ∈ z0, (Lit.int .u64 n).wf = true)
    (hw : 0 ≤ words ∧ words ≤ 65535) (hT : TabP w) :
    Calls Tryz.prog 3 #[.slice a0 len0 cap0, .int .i64 d, .int .u16 words] w fun e w' => e = .returned (.bool true) ∧ Below w.heap.size w w' := by
  obtain ⟨l, rfl, hl, hW⟩ := In.of w0
  rcases pw_cases (l.length : Int) with ⟨k, hk⟩ | hk
  · obtain ⟨kf, hf⟩ := (rfits_yes _ _ hk).rounds
    by_cases hL : 64 < l.length
    · exact means_long a0 cap0 l d words (k : Int) kf hf hL w hl hT
    have h2 : 2 ^ k = l.length := by have := hk.2; exact_mod_cast this.symm
    have hk6 : k ≤ 6 := by
      rcases Nat.lt_or_ge 6 k with h | h
      · have := Nat.pow_le_pow_right (show 0 < 2 by decide) (show 7 ≤ k by omega)
        have e : (2 : Nat) ^ 7 = 128 := by decide
        omega
      · exact h
    by_cases hd : d = 0 ∨ d = 1
    · have hF : LF l (2 ^ (k / 2)) (2 ^ (k - k / 2)) (k / 2) (k - k / 2) k := ⟨rfl, rfl, by omega, by omega, by rw [← Nat.pow_add, ← h2]; congr 1; omega⟩
      by_cases hs : k ≤ 20 ∧ ((2 * 2 ^ k + 4 : Nat) : Int) ≤ (((2 * 2 ^ ((k + 1) / 2) + 4 : Nat) : Int) + words.tmod 300)
      · rcases hd with rfl | rfl
        · exact means_1_0 a0 cap0 l words k kf (2 ^ k) hk6 rfl h2 hw.1 hw.2 hf (by unfold psl; rw [if_pos hs]) hW w hl hT
        · exact means_1_1 a0 cap0 l words k kf (2 ^ k) hk6 rfl h2 hw.1 hw.2 hf (by unfold psl; rw [if_pos hs]) hW w hl hT
      · rcases hd with rfl | rfl
        · exact means_5_0 a0 cap0 l words k kf _ _ _ _ hk6 hF h2 hw.1 hw.2 hf (by unfold psl; rw [if_neg hs]; rfl) hW w hl hT
        · exact means_5_1 a0 cap0 l words k kf _ _ _ _ hk6 hF h2 hw.1 hw.2 hf (by unfold psl; rw [if_neg hs]; rfl) hW w hl hT
    · exact means_dir a0 cap0 l d words (k : Int) kf hf (by omega) (by omega) (bad_n (fun e => hd (.inl e))) (bad_n (fun e => hd (.inr e))) w hl hT
  · obtain ⟨kf, hf⟩ := (rfits_no _ hk).rounds
    by_cases hL : 64 < l.length
    · exact means_long a0 cap0 l d words (-1) kf hf hL w hl hT
    · exact means_odd a0 cap0 l d words (-1) kf hf (by omega) (by decide) w hl hT
end Go.Proofs.YtpnkcjnemoompaaGreatDoor.Kern
end
